/- What the lunisolar calendar's functions compute, in plain numbers: leap years, first days of years, months, dates of days and days of dates; and that the laws' functions answer true. No program and no memory stands here. -/
import Derived.Test.YtfpegmnjplagfaaCx2
namespace Go.Proofs.Ytfpegmnjplagfaa.Pure
open Go.RowKit Go.Proofs.Ytfpegmnjplagfaa.C

theorem wrap_id {x : Int} (h0 : -9223372036854775808 ≤ x) (h1 : x ≤ 9223372036854775807) : wrap64 x = x := by unfold wrap64; omega

/-- A leap year. -/
def Lp (y : Int) : Prop := 12 ≤ (7 * y + 2) % 19
instance (y : Int) : Decidable (Lp y) := by unfold Lp; infer_instance
/-- The first day of a year. -/
def S (y : Int) : Int := 354 * y + 30 * ((7 * y + 2) / 19)
theorem S_next (y : Int) : S (y + 1) = S y + (if Lp y then 384 else 354) := by
  by_cases hl : Lp y
  · rw [if_pos hl]
    unfold Lp at hl
    unfold S
    omega
  · rw [if_neg hl]
    unfold Lp at hl
    unfold S
    omega
theorem S_mono {x y : Int} (h : x ≤ y) : S x ≤ S y := by
  have := Int.ediv_le_ediv (c := 19) (by omega) (show 7 * x + 2 ≤ 7 * y + 2 by omega)
  unfold S
  omega
theorem S_bound {y : Int} (h : 0 ≤ y) : 0 ≤ S y ∧ 354 * y ≤ S y ∧ S y ≤ 384 * y := by
  have h0 : 0 ≤ (7 * y + 2) / 19 := Int.ediv_nonneg (by omega) (by omega)
  have h1 : (7 * y + 2) / 19 ≤ y := by omega
  unfold S
  omega
theorem Lp_iff (y : Int) : Lp y ↔ (y % 19 = 2 ∨ y % 19 = 5 ∨ y % 19 = 7 ∨ y % 19 = 10 ∨ y % 19 = 13 ∨ y % 19 = 15 ∨ y % 19 = 18) := by
  unfold Lp
  have e : (7 * y + 2) % 19 = (7 * (y % 19) + 2) % 19 := by omega
  rw [e]
  have h0 : 0 ≤ y % 19 := by omega
  have h1 : y % 19 < 19 := by omega
  generalize y % 19 = r at h0 h1 ⊢
  obtain rfl | rfl | rfl | rfl | rfl | rfl | rfl | rfl | rfl | rfl | rfl | rfl | rfl | rfl | rfl | rfl | rfl | rfl | rfl : r = 0 ∨ r = 1 ∨ r = 2 ∨ r = 3 ∨ r = 4 ∨ r = 5 ∨ r = 6 ∨ r = 7 ∨ r = 8 ∨ r = 9 ∨ r = 10 ∨ r = 11 ∨ r = 12 ∨ r = 13 ∨ r = 14 ∨ r = 15 ∨ r = 16 ∨ r = 17 ∨ r = 18 := by omega
  all_goals decide

theorem Leap_at {y : Int} (h : 0 ≤ y) : lunisolar_Leap.f y = some (decide (Lp y)) := by
  unfold lunisolar_Leap.f
  rw [if_neg (by omega), Int.tmod_eq_emod_of_nonneg h]
  have L := Lp_iff y
  by_cases e : Lp y
  · rw [decide_eq_true e]
    have := L.1 e
    repeat' split
    all_goals first | rfl | (exfalso; omega)
  · rw [decide_eq_false e]
    have := mt L.2 e
    repeat' split
    all_goals first | rfl | (exfalso; omega)
theorem Leap_neg {y : Int} (h : y < 0) : lunisolar_Leap.f y = some false := by
  unfold lunisolar_Leap.f; rw [if_pos h]
theorem ref_Leap (y : Int) : pentaglotref18_Leap.f y = lunisolar_Leap.f y := rfl
/-- The days of a year. -/
def yd (y : Int) : Int := if y < 0 then 0 else if Lp y then 384 else 354
theorem yd_S {y : Int} (h : 0 ≤ y) : S (y + 1) = S y + yd y := by
  rw [S_next]; unfold yd; rw [if_neg (show ¬ y < 0 by omega)]
theorem yd_range {y : Int} (h : 0 ≤ y) : 354 ≤ yd y ∧ yd y ≤ 384 := by
  unfold yd; rw [if_neg (show ¬ y < 0 by omega)]; split <;> omega
theorem YearDays_at (y : Int) : lunisolar_YearDays.f y = some (yd y) := by
  unfold lunisolar_YearDays.f yd
  by_cases h : y < 0
  · rw [if_pos h, if_pos h]
  · rw [if_neg h, if_neg h, Leap_at (by omega)]
    simp only [Option.bind_some, decide_eq_true_eq]
    split <;> rfl
theorem ref_YearDays (y : Int) : pentaglotref18_YearDays.f y = some (yd y) := YearDays_at y

/-! ### The months of a year, by their places -/
def mo (y i : Int) : Int := if Lp y ∧ 7 ≤ i then i else if Lp y ∧ i = 6 then 6 else i + 1
def lf (y i : Int) : Bool := decide (Lp y ∧ i = 6)
def cnt (y : Int) : Int := if Lp y then 13 else 12
/-- The length of a month. -/
def ml (m : Int) (l : Bool) : Int := if l = true then 30 else if m % 2 = 1 then 30 else 29
/-- The days of the year ahead of a month. -/
def off (y m : Int) (l : Bool) : Int := 59 * ((m - 1) / 2) + 30 * ((m - 1) % 2) + (if l = true then 29 else 0) + (if Lp y ∧ 7 ≤ m then 30 else 0)
/-- There is such a month. -/
def VM (y m : Int) (l : Bool) : Prop := 0 ≤ y ∧ 1 ≤ m ∧ m ≤ 12 ∧ (l = true → m = 6 ∧ Lp y)
theorem VM_at {y i : Int} (h : 0 ≤ y) (h0 : 0 ≤ i) (h1 : i < cnt y) : VM y (mo y i) (lf y i) := by
  unfold VM mo lf cnt at *
  by_cases hl : Lp y
  · simp only [hl, true_and, if_true, decide_eq_true_eq] at *
    refine ⟨h, ?_, ?_, fun e => ⟨?_, trivial⟩⟩ <;> (repeat' split) <;> omega
  · simp only [hl, false_and, if_false, decide_eq_true_eq] at *
    exact ⟨h, by omega, by omega, fun e => e.elim⟩
theorem off_0 (y : Int) : off y (mo y 0) (lf y 0) = 0 := by
  unfold off mo lf
  by_cases hl : Lp y <;> simp [hl]
theorem off_next {y i : Int} (h0 : 0 ≤ i) (h1 : i + 1 < cnt y) : off y (mo y (i + 1)) (lf y (i + 1)) = off y (mo y i) (lf y i) + ml (mo y i) (lf y i) := by
  unfold off mo lf ml cnt at *
  by_cases hl : Lp y
  · simp only [hl, true_and, if_true, decide_eq_true_eq] at *
    repeat' split
    all_goals omega
  · simp only [hl, false_and, if_false, decide_eq_true_eq] at *
    repeat' split
    all_goals omega
theorem off_last {y i : Int} (h : 0 ≤ y) (h1 : i + 1 = cnt y) : off y (mo y i) (lf y i) + ml (mo y i) (lf y i) = yd y := by
  unfold off mo lf ml cnt yd at *
  rw [if_neg (by omega : ¬ y < 0)]
  by_cases hl : Lp y
  · simp only [hl, true_and, if_true, decide_eq_true_eq] at *
    obtain rfl : i = 12 := by omega
    simp
  · simp only [hl, false_and, if_false, decide_eq_true_eq] at *
    obtain rfl : i = 11 := by omega
    simp
theorem ml_range (m : Int) (l : Bool) : 29 ≤ ml m l ∧ ml m l ≤ 30 := by unfold ml; (repeat' split) <;> omega
theorem off_range {y m : Int} {l : Bool} (h : VM y m l) : 0 ≤ off y m l ∧ off y m l + ml m l ≤ yd y := by
  obtain ⟨h0, h1, h2, h3⟩ := h
  unfold off ml yd
  rw [if_neg (by omega : ¬ y < 0)]
  cases l with
  | true =>
    obtain ⟨rfl, hl⟩ := h3 rfl
    simp [hl]
  | false =>
    by_cases hl : Lp y
    · simp only [hl, true_and, if_true, Bool.false_eq_true, if_false]
      (repeat' split) <;> omega
    · simp only [hl, false_and, if_false, Bool.false_eq_true]
      (repeat' split) <;> omega
/-- Each month has a place. -/
def place (y m : Int) (l : Bool) : Int := if l = true then 6 else if Lp y ∧ 7 ≤ m then m else m - 1
theorem place_at {y m : Int} {l : Bool} (h : VM y m l) : 0 ≤ place y m l ∧ place y m l < cnt y ∧ mo y (place y m l) = m ∧ lf y (place y m l) = l := by
  obtain ⟨h0, h1, h2, h3⟩ := h
  unfold place mo lf cnt
  cases l with
  | true =>
    obtain ⟨rfl, hl⟩ := h3 rfl
    simp [hl]
  | false =>
    by_cases hl : Lp y
    · simp only [hl, true_and, if_true, Bool.false_eq_true, if_false, decide_eq_false_iff_not]
      (repeat' split) <;> omega
    · simp only [hl, false_and, if_false, Bool.false_eq_true, decide_eq_false_iff_not]
      refine ⟨by omega, by omega, by omega, fun e => e⟩
theorem place_of {y i : Int} (h0 : 0 ≤ i) (h1 : i < cnt y) : place y (mo y i) (lf y i) = i := by
  unfold place mo lf cnt at *
  by_cases hl : Lp y
  · simp only [hl, true_and, if_true, decide_eq_true_eq] at *
    (repeat' split) <;> omega
  · simp only [hl, false_and, if_false, decide_eq_true_eq] at *
    omega
theorem place_inj {y i : Int} {m : Int} {l : Bool} (h : VM y m l) (h0 : 0 ≤ i) (h1 : i < cnt y) (e1 : mo y i = m) (e2 : lf y i = l) : i = place y m l := by
  subst e1; subst e2; exact (place_of h0 h1).symm

/-- The list of the months. -/
def ent (y m : Int) (l : Bool) : S34 := ⟨2, y, m, 1, l⟩
def Ms (y : Int) : List S34 :=
  if Lp y then [ent y 1 false, ent y 2 false, ent y 3 false, ent y 4 false, ent y 5 false, ent y 6 false, ent y 6 true, ent y 7 false, ent y 8 false, ent y 9 false, ent y 10 false, ent y 11 false, ent y 12 false]
  else [ent y 1 false, ent y 2 false, ent y 3 false, ent y 4 false, ent y 5 false, ent y 6 false, ent y 7 false, ent y 8 false, ent y 9 false, ent y 10 false, ent y 11 false, ent y 12 false]
theorem Ms_len (y : Int) : ((Ms y).length : Int) = cnt y := by unfold Ms cnt; split <;> rfl
theorem Ms_at {y i : Int} (h0 : 0 ≤ i) (h1 : i < cnt y) : rd_T34 (Ms y) i = ent y (mo y i) (lf y i) := by
  unfold Ms cnt mo lf at *
  by_cases hl : Lp y
  · simp only [hl, true_and, if_true] at *
    obtain rfl | rfl | rfl | rfl | rfl | rfl | rfl | rfl | rfl | rfl | rfl | rfl | rfl : i = 0 ∨ i = 1 ∨ i = 2 ∨ i = 3 ∨ i = 4 ∨ i = 5 ∨ i = 6 ∨ i = 7 ∨ i = 8 ∨ i = 9 ∨ i = 10 ∨ i = 11 ∨ i = 12 := by omega
    all_goals simp [rd_T34]
  · simp only [hl, false_and, if_false] at *
    obtain rfl | rfl | rfl | rfl | rfl | rfl | rfl | rfl | rfl | rfl | rfl | rfl : i = 0 ∨ i = 1 ∨ i = 2 ∨ i = 3 ∨ i = 4 ∨ i = 5 ∨ i = 6 ∨ i = 7 ∨ i = 8 ∨ i = 9 ∨ i = 10 ∨ i = 11 := by omega
    all_goals simp [rd_T34]

theorem Months_step {k : Nat} {y m : Int} {xs : List S34} (h1 : 1 ≤ m) (h2 : m ≤ 12) (h6 : ¬ m = 6) (hl : xs.length ≤ 20) : lunisolar_Months.l0 (k + 1) y xs m = lunisolar_Months.l0 k y (xs ++ [ent y m false]) (m + 1) := by
  simp only [lunisolar_Months.l0]
  rw [if_pos h2, if_pos (by omega)]
  simp only [Option.bind_some]
  rw [if_neg h6, wrap_id (by omega) (by omega)]
  rfl
theorem Months_six {k : Nat} {y : Int} {xs : List S34} (h0 : 0 ≤ y) (hl : xs.length ≤ 20) : lunisolar_Months.l0 (k + 1) y xs 6 = lunisolar_Months.l0 k y (if Lp y then (xs ++ [ent y 6 false]) ++ [ent y 6 true] else xs ++ [ent y 6 false]) 7 := by
  simp only [lunisolar_Months.l0]
  rw [if_pos (by omega), if_pos (by omega)]
  simp only [Option.bind_some, if_true]
  rw [Leap_at h0]
  simp only [Option.bind_some, decide_eq_true_eq]
  have e : wrap64 (6 + 1) = 7 := wrap_id (by omega) (by omega)
  by_cases h : Lp y
  · rw [if_pos h, if_pos h, if_pos (by simp; omega), e]; rfl
  · rw [if_neg h, if_neg h, e]; rfl
theorem Months_end {k : Nat} {y : Int} {xs : List S34} : lunisolar_Months.l0 (k + 1) y xs 13 = some xs := by
  simp only [lunisolar_Months.l0]
  rw [if_neg (by omega)]
theorem Months_at {k : Nat} (hk : 20 ≤ k) {y : Int} (h0 : 0 ≤ y) : lunisolar_Months.f k y = some (Ms y) := by
  obtain ⟨k, rfl⟩ : ∃ n, k = n + 13 := ⟨k - 13, by omega⟩
  unfold lunisolar_Months.f
  rw [if_neg (by omega)]
  rw [Months_step (by omega) (by omega) (by omega) (by simp), Months_step (by omega) (by omega) (by omega) (by simp), Months_step (by omega) (by omega) (by omega) (by simp),
    Months_step (by omega) (by omega) (by omega) (by simp), Months_step (by omega) (by omega) (by omega) (by simp)]
  rw [show (1 + 1 + 1 + 1 + 1 + 1 : Int) = 6 by rfl, Months_six h0 (by simp)]
  by_cases h : Lp y
  · rw [if_pos h]
    rw [Months_step (by omega) (by omega) (by omega) (by simp), Months_step (by omega) (by omega) (by omega) (by simp), Months_step (by omega) (by omega) (by omega) (by simp),
      Months_step (by omega) (by omega) (by omega) (by simp), Months_step (by omega) (by omega) (by omega) (by simp), Months_step (by omega) (by omega) (by omega) (by simp)]
    rw [show (7 + 1 + 1 + 1 + 1 + 1 + 1 : Int) = 13 by rfl, Months_end]
    unfold Ms; rw [if_pos h]; rfl
  · rw [if_neg h]
    rw [Months_step (by omega) (by omega) (by omega) (by simp), Months_step (by omega) (by omega) (by omega) (by simp), Months_step (by omega) (by omega) (by omega) (by simp),
      Months_step (by omega) (by omega) (by omega) (by simp), Months_step (by omega) (by omega) (by omega) (by simp), Months_step (by omega) (by omega) (by omega) (by simp)]
    rw [show (7 + 1 + 1 + 1 + 1 + 1 + 1 : Int) = 13 by rfl, Months_end]
    unfold Ms; rw [if_neg h]; rfl
theorem Months_neg {k : Nat} {y : Int} (h0 : y < 0) : lunisolar_Months.f k y = some [] := by
  unfold lunisolar_Months.f; rw [if_pos h0]
theorem ref_Months_step {k : Nat} {y m : Int} {xs : List S34} (h0 : 0 ≤ y) (h1 : 1 ≤ m) (h2 : m ≤ 12) (h6 : ¬ m = 6) (hl : xs.length ≤ 20) : pentaglotref18_Months.l0 (k + 2) y xs m = pentaglotref18_Months.l0 k y (xs ++ [ent y m false]) (m + 1) := by
  simp only [pentaglotref18_Months.l0, pentaglotref18_Months.j1]
  rw [if_pos h2, decide_eq_true (by omega), if_pos rfl, if_pos (by omega)]
  simp only [Option.bind_some]
  rw [if_neg h6, wrap_id (by omega) (by omega)]
  rfl
theorem ref_Months_six {k : Nat} {y : Int} {xs : List S34} (h0 : 0 ≤ y) (hl : xs.length ≤ 20) : pentaglotref18_Months.l0 (k + 2) y xs 6 = pentaglotref18_Months.l0 k y (if Lp y then (xs ++ [ent y 6 false]) ++ [ent y 6 true] else xs ++ [ent y 6 false]) 7 := by
  simp only [pentaglotref18_Months.l0, pentaglotref18_Months.j1]
  rw [if_pos (by omega), decide_eq_true (by omega), if_pos rfl, if_pos (by omega)]
  simp only [Option.bind_some, if_true]
  rw [ref_Leap, Leap_at h0]
  simp only [Option.bind_some, decide_eq_true_eq]
  have e : wrap64 (6 + 1) = 7 := wrap_id (by omega) (by omega)
  by_cases h : Lp y
  · rw [if_pos h, if_pos h, if_pos (by simp; omega), e]; rfl
  · rw [if_neg h, if_neg h, e]; rfl
theorem ref_Months_end {k : Nat} {y : Int} {xs : List S34} : pentaglotref18_Months.l0 (k + 2) y xs 13 = some xs := by
  simp only [pentaglotref18_Months.l0, pentaglotref18_Months.j1]
  rw [if_neg (by omega)]
  simp
theorem ref_Months_at {k : Nat} (hk : 30 ≤ k) {y : Int} (h0 : 0 ≤ y) : pentaglotref18_Months.f k y = some (Ms y) := by
  obtain ⟨k, rfl⟩ : ∃ n, k = n + 26 := ⟨k - 26, by omega⟩
  unfold pentaglotref18_Months.f
  rw [ref_Months_step h0 (by omega) (by omega) (by omega) (by simp), ref_Months_step h0 (by omega) (by omega) (by omega) (by simp), ref_Months_step h0 (by omega) (by omega) (by omega) (by simp),
    ref_Months_step h0 (by omega) (by omega) (by omega) (by simp), ref_Months_step h0 (by omega) (by omega) (by omega) (by simp)]
  rw [show (1 + 1 + 1 + 1 + 1 + 1 : Int) = 6 by rfl, ref_Months_six h0 (by simp)]
  by_cases h : Lp y
  · rw [if_pos h]
    rw [ref_Months_step h0 (by omega) (by omega) (by omega) (by simp), ref_Months_step h0 (by omega) (by omega) (by omega) (by simp), ref_Months_step h0 (by omega) (by omega) (by omega) (by simp),
      ref_Months_step h0 (by omega) (by omega) (by omega) (by simp), ref_Months_step h0 (by omega) (by omega) (by omega) (by simp), ref_Months_step h0 (by omega) (by omega) (by omega) (by simp)]
    rw [show (7 + 1 + 1 + 1 + 1 + 1 + 1 : Int) = 13 by rfl, ref_Months_end]
    unfold Ms; rw [if_pos h]; rfl
  · rw [if_neg h]
    rw [ref_Months_step h0 (by omega) (by omega) (by omega) (by simp), ref_Months_step h0 (by omega) (by omega) (by omega) (by simp), ref_Months_step h0 (by omega) (by omega) (by omega) (by simp),
      ref_Months_step h0 (by omega) (by omega) (by omega) (by simp), ref_Months_step h0 (by omega) (by omega) (by omega) (by simp), ref_Months_step h0 (by omega) (by omega) (by omega) (by simp)]
    rw [show (7 + 1 + 1 + 1 + 1 + 1 + 1 : Int) = 13 by rfl, ref_Months_end]
    unfold Ms; rw [if_neg h]; rfl
theorem ref_Months_neg {k : Nat} (hk : 30 ≤ k) {y : Int} (h0 : y < 0) : pentaglotref18_Months.f k y = some [] := by
  obtain ⟨k, rfl⟩ : ∃ n, k = n + 2 := ⟨k - 2, by omega⟩
  unfold pentaglotref18_Months.f
  simp only [pentaglotref18_Months.l0, pentaglotref18_Months.j1]
  rw [if_pos (by omega), decide_eq_false (by omega)]
  simp

/-! ### The length of a month -/
theorem MonthDays_yes {y m d : Int} {l : Bool} (h : VM y m l) : lunisolar_MonthDays.f 2 y m d l = some (ml m l) := by
  obtain ⟨h0, h1, h2, h3⟩ := h
  unfold lunisolar_MonthDays.f ml
  rw [if_pos ⟨rfl, h0, h1, h2⟩]
  cases l with
  | false => simp
  | true =>
    obtain ⟨rfl, hl⟩ := h3 rfl
    rw [if_neg (by decide), if_pos rfl, Leap_at h0, decide_eq_true hl]
    rfl
theorem MonthDays_no {c y m d : Int} {l : Bool} (h : ¬ (c = 2 ∧ VM y m l)) : lunisolar_MonthDays.f c y m d l = some 0 := by
  unfold lunisolar_MonthDays.f
  by_cases hc : c = 2 ∧ 0 ≤ y ∧ 1 ≤ m ∧ m ≤ 12
  · rw [if_pos hc]
    cases l with
    | false => exact absurd ⟨hc.1, hc.2.1, hc.2.2.1, hc.2.2.2, fun e => by cases e⟩ h
    | true =>
      rw [if_neg (by decide)]
      by_cases hm : m = 6
      · rw [if_pos hm, Leap_at hc.2.1]
        have : ¬ Lp y := fun hl => h ⟨hc.1, hc.2.1, hc.2.2.1, hc.2.2.2, fun _ => ⟨hm, hl⟩⟩
        rw [decide_eq_false this]; rfl
      · rw [if_neg hm]
  · rw [if_neg hc]
theorem ref_MonthDays {k : Nat} (hk : 5 ≤ k) (c y m d : Int) (l : Bool) : pentaglotref18_MonthDays.f k c y m d l = lunisolar_MonthDays.f c y m d l := by
  obtain ⟨k, rfl⟩ : ∃ n, k = n + 5 := ⟨k - 5, by omega⟩
  unfold pentaglotref18_MonthDays.f lunisolar_MonthDays.f
  by_cases hc : c = 2
  · rw [if_pos hc]
    by_cases hy : y < 0
    · rw [if_pos hy, if_neg (by omega)]
      simp [pentaglotref18_MonthDays.j0]
    · rw [if_neg hy]
      by_cases hm : m < 1
      · rw [if_pos hm, if_neg (by omega)]
        simp [pentaglotref18_MonthDays.j0]
      · rw [if_neg hm]
        by_cases hm2 : m > 12
        · rw [decide_eq_true hm2, if_neg (by omega)]
          simp [pentaglotref18_MonthDays.j0]
        · rw [decide_eq_false hm2, if_pos (by omega)]
          simp only [pentaglotref18_MonthDays.j0, pentaglotref18_MonthDays.j1]
          rw [if_neg (by decide)]
          cases l with
          | false =>
            rw [if_neg (by decide), if_pos rfl, Int.tmod_eq_emod_of_nonneg (by omega)]
            split <;> rfl
          | true =>
            by_cases h6 : m = 6
            · rw [ref_Leap, Leap_at (show 0 ≤ y by omega)]
              by_cases hl : Lp y
              · simp [hl, h6]
              · simp [hl, h6]
            · simp [h6]
  · rw [if_neg hc, if_neg (fun x => hc x.1)]
    simp [pentaglotref18_MonthDays.j0]
theorem MD_ent {y m : Int} {l : Bool} (h : VM y m l) : lunisolar_MonthDays.f (ent y m l).f0 (ent y m l).f1 (ent y m l).f2 (ent y m l).f3 (ent y m l).f4 = some (ml m l) := MonthDays_yes h

/-! ### The first day of a year -/
theorem YearStart_loop (d : Nat) : ∀ (k : Nat) (y x i : Int), 0 ≤ y → y ≤ 2825 → 0 ≤ i → y % 19 - i = d → d < k → x = 6936 * (y / 19) + S i →
    lunisolar_YearStart.l0 k y x i = some (if S y ≤ 999999 then (S y, 0) else (0, 2)) := by
  induction d with
  | zero =>
    intro k y x i h0 h1 hi hd hk hx
    obtain ⟨k, rfl⟩ : ∃ n, k = n + 1 := ⟨k - 1, by omega⟩
    simp only [lunisolar_YearStart.l0]
    rw [Int.tmod_eq_emod_of_nonneg h0, if_neg (by omega)]
    have : x = S y := by
      obtain rfl : i = y % 19 := by omega
      rw [hx]
      unfold S
      omega
    rw [this]
    by_cases e : S y ≤ 999999
    · rw [if_neg (by omega), if_pos e]
    · rw [if_pos (by omega), if_neg e]
  | succ d ih =>
    intro k y x i h0 h1 hi hd hk hx
    obtain ⟨k, rfl⟩ : ∃ n, k = n + 1 := ⟨k - 1, by omega⟩
    simp only [lunisolar_YearStart.l0]
    rw [Int.tmod_eq_emod_of_nonneg h0, if_pos (by omega), YearDays_at]
    simp only [Option.bind_some]
    have b := S_bound hi
    have c := yd_range hi
    rw [wrap_id (x := x + yd i) (by omega) (by omega), wrap_id (x := i + 1) (by omega) (by omega)]
    exact ih k y _ (i + 1) h0 h1 (by omega) (by omega) (by omega) (by rw [yd_S hi]; omega)
theorem YearStart_at {k : Nat} (hk : 30 ≤ k) (y : Int) : lunisolar_YearStart.f k y = some (if y < 0 then (0, 1) else if S y ≤ 999999 then (S y, 0) else (0, 2)) := by
  unfold lunisolar_YearStart.f
  by_cases h : y < 0
  · rw [if_pos h, if_pos h]
  · rw [if_neg h, if_neg h]
    by_cases h2 : y > 2825
    · have b := S_bound (show 0 ≤ y by omega)
      rw [if_pos h2, if_neg (by omega)]
    · rw [if_neg h2, Int.tdiv_eq_ediv_of_nonneg (by omega), wrap_id (x := y / 19) (by omega) (by omega), wrap_id (by omega) (by omega)]
      exact YearStart_loop (y % 19).toNat k y _ 0 (by omega) (by omega) (by omega) (by omega) (by omega) (by unfold S; omega)
theorem ref_YearStart_loop (d : Nat) : ∀ (k : Nat) (y x i : Int), 0 ≤ i → S i ≤ 999999 → 2900 - i ≤ d → d < k → x = S i → i ≤ y →
    pentaglotref18_YearStart.l0 k y x i = some (if S y ≤ 999999 then (S y, true) else (0, false)) := by
  induction d with
  | zero =>
    intro k y x i hi hs hd hk hx hy
    have b := S_bound hi
    omega
  | succ d ih =>
    intro k y x i hi hs hd hk hx hy
    obtain ⟨k, rfl⟩ : ∃ n, k = n + 1 := ⟨k - 1, by omega⟩
    simp only [pentaglotref18_YearStart.l0]
    have b := S_bound hi
    have c := yd_range hi
    by_cases e : i < y
    · rw [if_pos e, ref_YearDays]
      simp only [Option.bind_some]
      rw [wrap_id (x := x + yd i) (by omega) (by omega), wrap_id (x := i + 1) (by omega) (by omega)]
      have n := yd_S hi
      by_cases g : x + yd i > 999999
      · have m := S_mono (show i + 1 ≤ y by omega)
        rw [if_pos g, if_neg (by omega)]
      · rw [if_neg g]
        exact ih k y _ (i + 1) (by omega) (by omega) (by omega) (by omega) (by omega) (by omega)
    · obtain rfl : i = y := by omega
      rw [if_neg e, if_pos hs, hx]
theorem ref_YearStart_at {k : Nat} (hk : 3000 ≤ k) {y : Int} (h : 0 ≤ y) : pentaglotref18_YearStart.f k y = some (if S y ≤ 999999 then (S y, true) else (0, false)) := by
  unfold pentaglotref18_YearStart.f
  exact ref_YearStart_loop 2900 k y 0 0 (by omega) (by unfold S; omega) (by omega) (by omega) (by unfold S; omega) h

/-! ### Dates and days -/
/-- The day of a date. -/
def num (y m d : Int) (l : Bool) : Int := S y + off y m l + d - 1
/-- A valid date. -/
def VD (y m d : Int) (l : Bool) : Prop := VM y m l ∧ 1 ≤ d ∧ d ≤ ml m l
theorem num_range {y m d : Int} {l : Bool} (h : VD y m d l) : S y ≤ num y m d l ∧ num y m d l < S (y + 1) := by
  have o := off_range h.1
  have n := yd_S h.1.1
  have := h.2
  unfold num
  omega
theorem year_of {x y : Int} (a : S x < S (y + 1)) (b : S y < S (x + 1)) : x = y := by
  by_cases h : x < y
  · have := S_mono (show x + 1 ≤ y by omega); omega
  · by_cases g : y < x
    · have := S_mono (show y + 1 ≤ x by omega); omega
    · omega
/-- The order of months and days within a year. -/
theorem off_order {y m m' : Int} {l l' : Bool} (h : VM y m l) (h' : VM y m' l') (lt : m < m' ∨ m = m' ∧ l = false ∧ l' = true) : off y m l + ml m l ≤ off y m' l' := by
  obtain ⟨h0, h1, h2, h3⟩ := h
  obtain ⟨g0, g1, g2, g3⟩ := h'
  unfold off ml
  cases l with
  | true =>
    obtain ⟨rfl, hl⟩ := h3 rfl
    cases l' with
    | true => obtain ⟨rfl, _⟩ := g3 rfl; simp at lt
    | false =>
      simp only [hl, true_and, if_true, Bool.false_eq_true, if_false]
      have : 6 < m' := by rcases lt with lt | ⟨_, lt, _⟩; exact lt; cases lt
      (repeat' split) <;> omega
  | false =>
    cases l' with
    | true =>
      obtain ⟨rfl, hl⟩ := g3 rfl
      simp only [hl, true_and, if_true, Bool.false_eq_true, if_false]
      (repeat' split) <;> omega
    | false =>
      have : m < m' := by rcases lt with lt | ⟨_, _, lt⟩; exact lt; cases lt
      by_cases hl : Lp y
      · simp only [hl, true_and, Bool.false_eq_true, if_false]
        (repeat' split) <;> omega
      · simp only [hl, false_and, if_false, Bool.false_eq_true]
        (repeat' split) <;> omega
/-- 'a' comes before 'b'. -/
def Bef (y m d : Int) (l : Bool) (y' m' d' : Int) (l' : Bool) : Prop :=
  y < y' ∨ y = y' ∧ (m < m' ∨ m = m' ∧ (l = false ∧ l' = true ∨ l = l' ∧ d < d'))
theorem num_lt {y m d y' m' d' : Int} {l l' : Bool} (h : VD y m d l) (h' : VD y' m' d' l') (b : Bef y m d l y' m' d' l') : num y m d l < num y' m' d' l' := by
  rcases b with b | ⟨rfl, b | ⟨rfl, b | ⟨rfl, b⟩⟩⟩
  · have := num_range h; have := num_range h'; have := S_mono (show y + 1 ≤ y' by omega); omega
  · have := off_order h.1 h'.1 (.inl b); have := h.2; have := h'.2; unfold num; omega
  · have := off_order h.1 h'.1 (.inr ⟨rfl, b⟩); have := h.2; have := h'.2; unfold num; omega
  · unfold num; omega
theorem Bef_or (y m d : Int) (l : Bool) (y' m' d' : Int) (l' : Bool) : Bef y m d l y' m' d' l' ∨ Bef y' m' d' l' y m d l ∨ (y = y' ∧ m = m' ∧ d = d' ∧ l = l') := by
  unfold Bef
  cases l <;> cases l' <;> simp <;> omega
theorem num_inj {y m d y' m' d' : Int} {l l' : Bool} (h : VD y m d l) (h' : VD y' m' d' l') (e : num y m d l = num y' m' d' l') : y = y' ∧ m = m' ∧ d = d' ∧ l = l' := by
  rcases Bef_or y m d l y' m' d' l' with b | b | b
  · have := num_lt h h' b; omega
  · have := num_lt h' h b; omega
  · exact b

/-- The search in the months, from place i on. -/
theorem Date1_loop (n : Nat) : ∀ (k : Nat) (y r i : Int), 0 ≤ y → 0 ≤ i → i < cnt y → cnt y - i = n → n < k → 0 ≤ r → r < yd y - off y (mo y i) (lf y i) →
    ∃ m d l, VD y m d l ∧ num y m d l = S y + off y (mo y i) (lf y i) + r ∧ lunisolar_Date_1.l0 k (Ms y) r i = some (2, y, m, d, l) := by
  induction n with
  | zero => intro k y r i h0 hi hc hn; omega
  | succ n ih =>
    intro k y r i h0 hi hc hn hk hr hy
    obtain ⟨k, rfl⟩ : ∃ n, k = n + 1 := ⟨k - 1, by omega⟩
    have vm := VM_at h0 hi hc
    have mlr := ml_range (mo y i) (lf y i)
    have cb : cnt y ≤ 13 := by unfold cnt; split <;> omega
    simp only [lunisolar_Date_1.l0]
    rw [Ms_len, if_pos hc, Ms_at hi hc]
    rw [MD_ent vm]
    simp only [Option.bind_some]
    have o := off_range vm
    have yr := yd_range h0
    by_cases e : r < ml (mo y i) (lf y i)
    · rw [if_pos e, wrap_id (by omega) (by omega)]
      exact ⟨mo y i, r + 1, lf y i, ⟨vm, by omega, by omega⟩, by unfold num; omega, rfl⟩
    · rw [if_neg e, wrap_id (x := r - ml (mo y i) (lf y i)) (by omega) (by omega), wrap_id (x := i + 1) (by omega) (by omega)]
      by_cases g : i + 1 < cnt y
      · have f := off_next hi g
        obtain ⟨m, d, l, v, w, E⟩ := ih k y (r - ml (mo y i) (lf y i)) (i + 1) h0 (by omega) g (by omega) (by omega) (by omega) (by omega)
        exact ⟨m, d, l, v, by omega, E⟩
      · have f := off_last h0 (show i + 1 = cnt y by omega)
        omega
theorem cnt_pos (y : Int) : 12 ≤ cnt y ∧ cnt y ≤ 13 := by unfold cnt; split <;> omega
theorem Date_loop (n : Nat) : ∀ (k : Nat) (y r : Int), 0 ≤ y → y + n ≤ 6000 → 0 ≤ r → r < 354 * n → r ≤ 999999 → n + 40 < k →
    ∃ y' m d l, VD y' m d l ∧ num y' m d l = S y + r ∧ lunisolar_Date.l0 k y r = some (2, y', m, d, l, 0) := by
  induction n with
  | zero => intro k y r h0 h1 hr hn; omega
  | succ n ih =>
    intro k y r h0 h1 hr hn hr2 hk
    obtain ⟨k, rfl⟩ : ∃ n, k = n + 1 := ⟨k - 1, by omega⟩
    simp only [lunisolar_Date.l0]
    rw [YearDays_at]
    simp only [Option.bind_some]
    have c := yd_range h0
    by_cases e : r ≥ yd y
    · rw [if_pos e, wrap_id (x := y + 1) (by omega) (by omega), wrap_id (x := r - yd y) (by omega) (by omega)]
      obtain ⟨y', m, d, l, v, w, E⟩ := ih k (y + 1) (r - yd y) (by omega) (by omega) (by omega) (by omega) (by omega) (by omega)
      have := yd_S h0
      exact ⟨y', m, d, l, v, by omega, E⟩
    · rw [if_neg e, Months_at (by omega) h0]
      simp only [Option.bind_some]
      have cp := cnt_pos y
      have o0 := off_0 y
      obtain ⟨m, d, l, v, w, E⟩ := Date1_loop (cnt y).toNat k y r 0 h0 (by omega) (by omega) (by omega) (by omega) hr (by omega)
      rw [E]
      exact ⟨y, m, d, l, v, by omega, rfl⟩
theorem Date_yes {k : Nat} (hk : 100 ≤ k) {n : Int} (h0 : 0 ≤ n) (h1 : n ≤ 999999) : ∃ y m d l, VD y m d l ∧ num y m d l = n ∧ lunisolar_Date.f k n = some (2, y, m, d, l, 0) := by
  unfold lunisolar_Date.f
  rw [if_neg (by omega), if_neg (by omega), Int.tdiv_eq_ediv_of_nonneg h0, Int.tmod_eq_emod_of_nonneg h0, wrap_id (x := n / 6936) (by omega) (by omega), wrap_id (by omega) (by omega)]
  obtain ⟨y, m, d, l, v, w, E⟩ := Date_loop 20 k (n / 6936 * 19) (n % 6936) (by omega) (by omega) (by omega) (by omega) (by omega) (by omega)
  refine ⟨y, m, d, l, v, ?_, E⟩
  rw [w]
  unfold S
  omega
theorem Date_no (k : Nat) {n : Int} (h : n < 0 ∨ n > 999999) : lunisolar_Date.f k n = some (0, 0, 0, 0, false, 1) := by
  unfold lunisolar_Date.f
  by_cases e : n < 0
  · rw [if_pos e]
  · rw [if_neg e, if_pos (by omega)]
theorem ref_Date1_loop (n : Nat) : ∀ (k : Nat) (y r i : Int), 0 ≤ y → 0 ≤ i → i < cnt y → cnt y - i = n → n + 10 < k → 0 ≤ r → r < yd y - off y (mo y i) (lf y i) →
    ∃ m d l, VD y m d l ∧ num y m d l = S y + off y (mo y i) (lf y i) + r ∧ pentaglotref18_Date.l1 k r (Ms y) i = some (2, y, m, d, l) := by
  induction n with
  | zero => intro k y r i h0 hi hc hn; omega
  | succ n ih =>
    intro k y r i h0 hi hc hn hk hr hy
    obtain ⟨k, rfl⟩ : ∃ n, k = n + 1 := ⟨k - 1, by omega⟩
    have vm := VM_at h0 hi hc
    have mlr := ml_range (mo y i) (lf y i)
    have cb := cnt_pos y
    simp only [pentaglotref18_Date.l1]
    rw [Ms_len, if_pos hi, if_pos hc, Ms_at hi hc]
    rw [ref_MonthDays (by omega), MD_ent vm]
    simp only [Option.bind_some]
    have o := off_range vm
    have yr := yd_range h0
    by_cases e : r ≥ ml (mo y i) (lf y i)
    · rw [if_pos e, wrap_id (x := r - ml (mo y i) (lf y i)) (by omega) (by omega), wrap_id (x := i + 1) (by omega) (by omega)]
      by_cases g : i + 1 < cnt y
      · have f := off_next hi g
        obtain ⟨m, d, l, v, w, E⟩ := ih k y (r - ml (mo y i) (lf y i)) (i + 1) h0 (by omega) g (by omega) (by omega) (by omega) (by omega)
        exact ⟨m, d, l, v, by omega, E⟩
      · have f := off_last h0 (show i + 1 = cnt y by omega)
        omega
    · rw [if_neg e, wrap_id (by omega) (by omega)]
      exact ⟨mo y i, r + 1, lf y i, ⟨vm, by omega, by omega⟩, by unfold num; omega, rfl⟩
theorem ref_Date_loop (n : Nat) : ∀ (k : Nat) (y r : Int), 0 ≤ y → y + n ≤ 6000 → 0 ≤ r → r < 354 * n → r ≤ 999999 → n + 60 < k →
    ∃ y' m d l, VD y' m d l ∧ num y' m d l = S y + r ∧ pentaglotref18_Date.l0 k r y = some (2, y', m, d, l) := by
  induction n with
  | zero => intro k y r h0 h1 hr hn; omega
  | succ n ih =>
    intro k y r h0 h1 hr hn hr2 hk
    obtain ⟨k, rfl⟩ : ∃ n, k = n + 1 := ⟨k - 1, by omega⟩
    simp only [pentaglotref18_Date.l0]
    rw [ref_YearDays]
    simp only [Option.bind_some]
    have c := yd_range h0
    by_cases e : r ≥ yd y
    · rw [if_pos e, wrap_id (x := y + 1) (by omega) (by omega), wrap_id (x := r - yd y) (by omega) (by omega)]
      obtain ⟨y', m, d, l, v, w, E⟩ := ih k (y + 1) (r - yd y) (by omega) (by omega) (by omega) (by omega) (by omega) (by omega)
      have := yd_S h0
      exact ⟨y', m, d, l, v, by omega, E⟩
    · rw [if_neg e, ref_Months_at (by omega) h0]
      simp only [Option.bind_some]
      have cp := cnt_pos y
      have o0 := off_0 y
      obtain ⟨m, d, l, v, w, E⟩ := ref_Date1_loop (cnt y).toNat k y r 0 h0 (by omega) (by omega) (by omega) (by omega) hr (by omega)
      rw [E]
      exact ⟨y, m, d, l, v, by omega, rfl⟩
theorem ref_Date_yes {k : Nat} (hk : 4000 ≤ k) {n : Int} (h0 : 0 ≤ n) (h1 : n ≤ 999999) : ∃ y m d l, VD y m d l ∧ num y m d l = n ∧ pentaglotref18_Date.f k n = some (2, y, m, d, l) := by
  unfold pentaglotref18_Date.f
  obtain ⟨y, m, d, l, v, w, E⟩ := ref_Date_loop 2900 k 0 n (by omega) (by omega) h0 (by omega) h1 (by omega)
  exact ⟨y, m, d, l, v, by rw [w]; unfold S; omega, E⟩

/-- The months ahead of the date's own, from place i on. -/
theorem Day_loop (n : Nat) : ∀ (k : Nat) (x i c y m d : Int) (l : Bool), VD y m d l → S y ≤ 999999 → 0 ≤ i → i ≤ place y m l → place y m l - i = n → n < k → x = S y + off y (mo y i) (lf y i) →
    lunisolar_Day.l0 k x (Ms y) (cnt y) i c y m d l = some (if num y m d l ≤ 999999 then (num y m d l, 0) else (0, 2)) := by
  induction n with
  | zero =>
    intro k x i c y m d l v hs hi hp hn hk hx
    obtain ⟨k, rfl⟩ : ∃ n, k = n + 1 := ⟨k - 1, by omega⟩
    obtain ⟨p0, p1, p2, p3⟩ := place_at v.1
    obtain rfl : i = place y m l := by omega
    have mlr := ml_range m l
    have o := off_range v.1
    have yr := yd_range v.1.1
    have sb := S_bound v.1.1
    simp only [lunisolar_Day.l0]
    rw [if_pos p1, if_pos hi, Ms_len, if_pos p1, Ms_at hi p1]
    rw [if_pos (show (ent y (mo y (place y m l)) (lf y (place y m l))).f2 = m from p2), if_pos (show ((ent y (mo y (place y m l)) (lf y (place y m l))).f4 == l) = true by show (lf y (place y m l) == l) = true; rw [p3]; exact beq_self_eq_true l)]
    rw [p2, p3] at hx
    have e : wrap64 (x + wrap64 (d - 1)) = num y m d l := by
      have := v.2
      rw [wrap_id (x := d - 1) (by omega) (by omega), wrap_id (by omega) (by omega)]
      unfold num; omega
    rw [e]
    by_cases g : num y m d l ≤ 999999
    · rw [if_neg (by omega), if_pos g]
    · rw [if_pos (by omega), if_neg g]
  | succ n ih =>
    intro k x i c y m d l v hs hi hp hn hk hx
    obtain ⟨k, rfl⟩ : ∃ n, k = n + 1 := ⟨k - 1, by omega⟩
    obtain ⟨p0, p1, p2, p3⟩ := place_at v.1
    have hc : i < cnt y := by omega
    have vm := VM_at v.1.1 hi hc
    have mlr := ml_range (mo y i) (lf y i)
    have o := off_range vm
    have yr := yd_range v.1.1
    have sb := S_bound v.1.1
    have cb := cnt_pos y
    have f := off_next hi (show i + 1 < cnt y by omega)
    have hne : ¬ (mo y i = m ∧ lf y i = l) := fun e => by
      have := place_inj v.1 hi hc e.1 e.2
      omega
    have w1 : wrap64 (x + ml (mo y i) (lf y i)) = x + ml (mo y i) (lf y i) := wrap_id (by omega) (by omega)
    have w2 : wrap64 (i + 1) = i + 1 := wrap_id (by omega) (by omega)
    have R := ih k (x + ml (mo y i) (lf y i)) (i + 1) c y m d l v hs (by omega) (by omega) (by omega) (by omega) (by omega)
    simp only [lunisolar_Day.l0]
    rw [if_pos hc, if_pos hi, Ms_len, if_pos hc, Ms_at hi hc]
    rw [MD_ent vm]
    simp only [Option.bind_some]
    rw [w1, w2, R]
    by_cases g : mo y i = m
    · rw [if_pos (show (ent y (mo y i) (lf y i)).f2 = m from g), if_neg]
      intro e
      exact hne ⟨g, beq_iff_eq.1 e⟩
    · rw [if_neg (show ¬ (ent y (mo y i) (lf y i)).f2 = m from g)]
theorem Day_yes {k : Nat} (hk : 60 ≤ k) {y m d : Int} {l : Bool} (v : VD y m d l) : lunisolar_Day.f k 2 y m d l = some (if num y m d l ≤ 999999 then (num y m d l, 0) else (0, 2)) := by
  obtain ⟨k, rfl⟩ : ∃ n, k = n + 1 := ⟨k - 1, by omega⟩
  have v2 := v.2
  unfold lunisolar_Day.f
  rw [if_neg (show ¬ d < 1 by omega), MonthDays_yes v.1]
  simp only [Option.bind_some]
  rw [decide_eq_false (show ¬ d > ml m l by omega)]
  simp only [lunisolar_Day.j0]
  rw [if_neg (by decide), YearStart_at (by omega)]
  simp only [Option.bind_some]
  have h0 := v.1.1
  rw [if_neg (show ¬ y < 0 by omega)]
  by_cases hs : S y ≤ 999999
  · rw [if_pos hs]
    simp only [if_true]
    rw [Months_at (by omega) h0]
    simp only [Option.bind_some]
    rw [Ms_len]
    obtain ⟨p0, p1, p2, p3⟩ := place_at v.1
    have cb := cnt_pos y
    exact Day_loop (place y m l).toNat k (S y) 0 2 y m d l v hs (by omega) p0 (by omega) (by omega) (by rw [off_0]; omega)
  · rw [if_neg hs]
    have := num_range v
    rw [if_neg (show ¬ num y m d l ≤ 999999 by omega)]
    rfl
theorem Day_no {k : Nat} (hk : 60 ≤ k) {c y m d : Int} {l : Bool} (v : ¬ (c = 2 ∧ VD y m d l)) : lunisolar_Day.f k c y m d l = some (0, 1) := by
  obtain ⟨k, rfl⟩ : ∃ n, k = n + 1 := ⟨k - 1, by omega⟩
  unfold lunisolar_Day.f
  by_cases h1 : d < 1
  · rw [if_pos h1]; simp [lunisolar_Day.j0]
  · rw [if_neg h1]
    by_cases h2 : c = 2 ∧ VM y m l
    · obtain ⟨rfl, vm⟩ := h2
      rw [MonthDays_yes vm]
      simp only [Option.bind_some]
      have n : ¬ d ≤ ml m l := fun x => v ⟨rfl, vm, by omega, x⟩
      rw [decide_eq_true (show d > ml m l by omega)]
      simp [lunisolar_Day.j0]
    · rw [MonthDays_no h2]
      simp only [Option.bind_some]
      rw [decide_eq_true (show d > 0 by omega)]
      simp [lunisolar_Day.j0]
theorem ref_Day_loop (n : Nat) : ∀ (k : Nat) (x i c y m d : Int) (l : Bool), VD y m d l → S y ≤ 999999 → 0 ≤ i → i ≤ place y m l → place y m l - i = n → n + 10 < k → x = S y + off y (mo y i) (lf y i) →
    pentaglotref18_Day.l0 k x (Ms y) i c y m d l = some (if num y m d l ≤ 999999 then (num y m d l, 0) else (0, 2)) := by
  induction n with
  | zero =>
    intro k x i c y m d l v hs hi hp hn hk hx
    obtain ⟨k, rfl⟩ : ∃ n, k = n + 1 := ⟨k - 1, by omega⟩
    obtain ⟨p0, p1, p2, p3⟩ := place_at v.1
    obtain rfl : i = place y m l := by omega
    have mlr := ml_range m l
    have o := off_range v.1
    have yr := yd_range v.1.1
    have sb := S_bound v.1.1
    simp only [pentaglotref18_Day.l0]
    rw [if_pos hi, Ms_len, if_pos p1, Ms_at hi p1]
    rw [if_pos (show (ent y (mo y (place y m l)) (lf y (place y m l))).f2 = m from p2), if_neg (show ¬ ((ent y (mo y (place y m l)) (lf y (place y m l))).f4 != l) = true by show ¬ (lf y (place y m l) != l) = true; rw [p3]; simp)]
    rw [p2, p3] at hx
    have e : wrap64 (wrap64 (x + d) - 1) = num y m d l := by
      have := v.2
      rw [wrap_id (x := x + d) (by omega) (by omega), wrap_id (by omega) (by omega)]
      unfold num; omega
    rw [e]
    by_cases g : num y m d l ≤ 999999
    · rw [if_neg (by omega), if_pos g]
    · rw [if_pos (by omega), if_neg g]
  | succ n ih =>
    intro k x i c y m d l v hs hi hp hn hk hx
    obtain ⟨k, rfl⟩ : ∃ n, k = n + 1 := ⟨k - 1, by omega⟩
    obtain ⟨p0, p1, p2, p3⟩ := place_at v.1
    have hc : i < cnt y := by omega
    have vm := VM_at v.1.1 hi hc
    have mlr := ml_range (mo y i) (lf y i)
    have o := off_range vm
    have yr := yd_range v.1.1
    have sb := S_bound v.1.1
    have cb := cnt_pos y
    have f := off_next hi (show i + 1 < cnt y by omega)
    have hne : ¬ (mo y i = m ∧ lf y i = l) := fun e => by
      have := place_inj v.1 hi hc e.1 e.2
      omega
    have w1 : wrap64 (x + ml (mo y i) (lf y i)) = x + ml (mo y i) (lf y i) := wrap_id (by omega) (by omega)
    have w2 : wrap64 (i + 1) = i + 1 := wrap_id (by omega) (by omega)
    have R := ih k (x + ml (mo y i) (lf y i)) (i + 1) c y m d l v hs (by omega) (by omega) (by omega) (by omega) (by omega)
    simp only [pentaglotref18_Day.l0]
    rw [if_pos hi, Ms_len, if_pos hc, Ms_at hi hc]
    rw [ref_MonthDays (by omega), MD_ent vm]
    simp only [Option.bind_some]
    rw [w1, w2, R]
    by_cases g : mo y i = m
    · rw [if_pos (show (ent y (mo y i) (lf y i)).f2 = m from g), if_pos]
      rw [bne_iff_ne]
      exact fun e => hne ⟨g, e⟩
    · rw [if_neg (show ¬ (ent y (mo y i) (lf y i)).f2 = m from g)]
theorem ref_Day_at {k : Nat} (hk : 3100 ≤ k) (c y m d : Int) (l : Bool) : pentaglotref18_Day.f k c y m d l = lunisolar_Day.f k c y m d l := by
  by_cases v : c = 2 ∧ VD y m d l
  · obtain ⟨rfl, v⟩ := v
    rw [Day_yes (by omega) v]
    have v2 := v.2
    unfold pentaglotref18_Day.f pentaglotref18_Valid.f
    rw [if_pos (show d ≥ 1 by omega), ref_MonthDays (by omega), MonthDays_yes v.1]
    simp only [Option.bind_some]
    rw [decide_eq_true (show d ≤ ml m l by omega)]
    simp only [if_true]
    have h0 := v.1.1
    rw [ref_YearStart_at (by omega) h0]
    simp only [Option.bind_some]
    by_cases hs : S y ≤ 999999
    · rw [if_pos hs]
      simp only [if_true]
      rw [ref_Months_at (by omega) h0]
      simp only [Option.bind_some]
      obtain ⟨p0, p1, p2, p3⟩ := place_at v.1
      have cb := cnt_pos y
      exact ref_Day_loop (place y m l).toNat k (S y) 0 2 y m d l v hs (by omega) p0 (by omega) (by omega) (by rw [off_0]; omega)
    · rw [if_neg hs]
      have := num_range v
      rw [if_neg (show ¬ num y m d l ≤ 999999 by omega)]
      rfl
  · rw [Day_no (by omega) v]
    unfold pentaglotref18_Day.f pentaglotref18_Valid.f
    by_cases h1 : d ≥ 1
    · rw [if_pos h1, ref_MonthDays (by omega)]
      by_cases h2 : c = 2 ∧ VM y m l
      · obtain ⟨rfl, vm⟩ := h2
        rw [MonthDays_yes vm]
        simp only [Option.bind_some]
        rw [decide_eq_false (show ¬ d ≤ ml m l from fun x => v ⟨rfl, vm, h1, x⟩)]
        rfl
      · rw [MonthDays_no h2]
        simp only [Option.bind_some]
        rw [decide_eq_false (show ¬ d ≤ 0 by omega)]
        rfl
    · rw [if_neg h1]
      rfl
theorem awake_at {k : Nat} (hk : 100 ≤ k) : pentaglotlaw18_awake.f k = some true := by
  have l2 : Lp 2 := by decide
  have v : VD 2 6 1 true := ⟨⟨by omega, by omega, by omega, fun _ => ⟨rfl, l2⟩⟩, by omega, by decide⟩
  have n : num 2 6 1 true = 885 := by decide
  obtain ⟨y, m, d, l, v', w, E⟩ := Date_yes hk (n := 885) (by omega) (by omega)
  obtain ⟨rfl, rfl, rfl, rfl⟩ := num_inj v' v (w.trans n.symm)
  unfold pentaglotlaw18_awake.f
  rw [E]
  simp only [Option.bind_some]
  rw [Day_yes (by omega) v, n]
  simp only [Option.bind_some]
  rw [Leap_at (by omega), Leap_at (by omega), YearDays_at, Months_at (by omega) (by omega)]
  have l1 : ¬ Lp 1 := by decide
  have ln := Ms_len 2
  simp only [Option.bind_some, decide_eq_true l2, decide_eq_false l1, if_true]
  rw [ln]
  decide

/-! ### The laws -/
def L (y : Int) : Int := (7 * y + 2) / 19
theorem L_next (y : Int) : L (y + 1) = L y + (if Lp y then 1 else 0) := by
  by_cases hl : Lp y
  · rw [if_pos hl]
    unfold Lp at hl
    unfold L
    omega
  · rw [if_neg hl]
    unfold Lp at hl
    unfold L
    omega
theorem Leaps_loop (n : Nat) : ∀ (k : Nat) (y i : Int), 0 ≤ y → y ≤ 1152921504606846976 → 0 ≤ i → 19 - i = n → n < k →
    pentaglotlaw18_LunisolarLeaps.l0 k y (L (y + i) - L y) (S (y + i) - S y) i = some true := by
  induction n with
  | zero =>
    intro k y i h0 h1 hi hn hk
    obtain ⟨k, rfl⟩ : ∃ n, k = n + 1 := ⟨k - 1, by omega⟩
    obtain rfl : i = 19 := by omega
    simp only [pentaglotlaw18_LunisolarLeaps.l0]
    have a : L (y + 19) - L y = 7 := by unfold L; omega
    have b : S (y + 19) - S y = 6936 := by unfold S; omega
    rw [if_neg (by omega), a, b]
    rfl
  | succ n ih =>
    intro k y i h0 h1 hi hn hk
    obtain ⟨k, rfl⟩ : ∃ n, k = n + 1 := ⟨k - 1, by omega⟩
    have lb : 0 ≤ L (y + i) - L y ∧ L (y + i) - L y ≤ 30 := by unfold L; omega
    have sl : ∀ z, S z = 354 * z + 30 * L z := fun _ => rfl
    have sb : 0 ≤ S (y + i) - S y ∧ S (y + i) - S y ≤ 10000 := by rw [sl, sl]; omega
    have c := yd_range (show 0 ≤ y + i by omega)
    have s := yd_S (show 0 ≤ y + i by omega)
    have l := L_next (y + i)
    have R := ih k y (i + 1) h0 h1 (by omega) (by omega) (by omega)
    have e : y + (i + 1) = y + i + 1 := by omega
    rw [e, s, l] at R
    simp only [pentaglotlaw18_LunisolarLeaps.l0]
    rw [if_pos (show i < 19 by omega), wrap_id (x := y + i) (by omega) (by omega), YearDays_at, Leap_at (by omega)]
    simp only [Option.bind_some, decide_eq_true_eq]
    rw [wrap_id (x := L (y + i) - L y + 1) (by omega) (by omega), wrap_id (x := S (y + i) - S y + yd (y + i)) (by omega) (by omega), wrap_id (x := i + 1) (by omega) (by omega)]
    have e2 : S (y + i) + yd (y + i) - S y = S (y + i) - S y + yd (y + i) := by omega
    rw [e2] at R
    by_cases g : Lp (y + i)
    · rw [if_pos g] at R ⊢
      have e3 : L (y + i) + 1 - L y = L (y + i) - L y + 1 := by omega
      rw [e3] at R
      exact R
    · rw [if_neg g] at R ⊢
      have e3 : L (y + i) + 0 - L y = L (y + i) - L y := by omega
      rw [e3] at R
      exact R
theorem LunisolarLeaps (y : Int) : ∃ k, pentaglotlaw18_LunisolarLeaps.f k y = some true := by
  refine ⟨200, ?_⟩
  unfold pentaglotlaw18_LunisolarLeaps.f
  rw [awake_at (by omega)]
  simp only [Option.bind_some, if_true]
  rw [ref_Leap, ref_YearDays, YearDays_at]
  have hl : ∃ b, lunisolar_Leap.f y = some b := by
    by_cases h : y < 0
    · exact ⟨_, Leap_neg h⟩
    · exact ⟨_, Leap_at (by omega)⟩
  obtain ⟨b, hb⟩ := hl
  rw [hb]
  simp only [Option.bind_some, bne_self_eq_false, Bool.false_eq_true, if_false]
  simp only [pentaglotlaw18_LunisolarLeaps.j0, pentaglotlaw18_LunisolarLeaps.j1, Bool.false_eq_true, if_false, if_true]
  by_cases h : y < 0
  · rw [if_pos h]
  · rw [if_neg h]
    by_cases g : y > 1152921504606846976
    · rw [decide_eq_true g, if_pos rfl]
    · rw [decide_eq_false g, if_neg (by decide)]
      have R := Leaps_loop 19 198 y 0 (by omega) (by omega) (by omega) (by omega) (by omega)
      rw [show y + 0 = y by omega, Int.sub_self, Int.sub_self] at R
      exact R

theorem LunisolarYears (y : Int) : ∃ k, pentaglotlaw18_LunisolarYears.f k y = some true := by
  refine ⟨4000, ?_⟩
  unfold pentaglotlaw18_LunisolarYears.f
  rw [awake_at (by omega)]
  simp only [Option.bind_some, if_true]
  rw [YearStart_at (by omega)]
  simp only [Option.bind_some]
  by_cases h : y < 0
  · simp [h]
  · simp only [if_neg h]
    have h0 : 0 ≤ y := by omega
    rw [ref_YearStart_at (by omega) h0]
    simp only [Option.bind_some]
    by_cases g : S y ≤ 999999
    · simp only [if_pos g]
      simp only [if_true]
      have b := S_bound h0
      have c := yd_range h0
      have n := yd_S h0
      rw [wrap_id (x := y + 1) (by omega) (by omega), YearStart_at (by omega)]
      simp only [Option.bind_some]
      rw [if_neg (show ¬ y + 1 < 0 by omega), YearDays_at]
      simp only [Option.bind_some]
      rw [wrap_id (x := S y + yd y) (by omega) (by omega)]
      by_cases e : S (y + 1) ≤ 999999
      · simp only [if_pos e]
        simp
        omega
      · simp only [if_neg e]
        simp
        omega
    · simp only [if_neg g]
      simp

theorem Same_loop (n : Nat) : ∀ (k : Nat) (xs : List S34) (i : Int), 0 ≤ i → xs.length ≤ 100 → (xs.length : Int) - i = n → n < k → pentaglotref18_Same.l0 k xs xs i = some true := by
  induction n with
  | zero =>
    intro k xs i h0 h1 hn hk
    obtain ⟨k, rfl⟩ : ∃ n, k = n + 1 := ⟨k - 1, by omega⟩
    simp only [pentaglotref18_Same.l0]
    rw [if_neg (by omega)]
  | succ n ih =>
    intro k xs i h0 h1 hn hk
    obtain ⟨k, rfl⟩ : ∃ n, k = n + 1 := ⟨k - 1, by omega⟩
    simp only [pentaglotref18_Same.l0]
    rw [if_pos (by omega), if_pos h0, if_pos (by omega), if_neg (by simp), wrap_id (by omega) (by omega)]
    exact ih k xs (i + 1) (by omega) h1 (by omega) (by omega)
theorem Same_at {k : Nat} (hk : 200 ≤ k) (xs : List S34) (h : xs.length ≤ 100) : pentaglotref18_Same.f k xs xs = some true := by
  unfold pentaglotref18_Same.f
  rw [if_pos rfl]
  exact Same_loop xs.length k xs 0 (by omega) h (by omega) (by omega)
theorem Months_sum (n : Nat) : ∀ (k : Nat) (y x i : Int), 0 ≤ y → 0 ≤ i → i ≤ cnt y → cnt y - i = n → n + 300 < k → x = (if i = cnt y then yd y else off y (mo y i) (lf y i)) →
    pentaglotlaw18_LunisolarMonths.l0 k y (Ms y) x i = some true := by
  induction n with
  | zero =>
    intro k y x i h0 hi hc hn hk hx
    obtain ⟨k, rfl⟩ : ∃ n, k = n + 1 := ⟨k - 1, by omega⟩
    obtain rfl : i = cnt y := by omega
    rw [if_pos rfl] at hx
    have cb := cnt_pos y
    have ln := Ms_len y
    simp only [pentaglotlaw18_LunisolarMonths.l0]
    rw [Ms_len, if_neg (by omega), ref_Months_at (by omega) h0]
    simp only [Option.bind_some]
    rw [Same_at (by omega) _ (by omega)]
    simp only [Option.bind_some, if_true]
    rw [YearDays_at, hx]
    simp
  | succ n ih =>
    intro k y x i h0 hi hc hn hk hx
    obtain ⟨k, rfl⟩ : ∃ n, k = n + 1 := ⟨k - 1, by omega⟩
    have hc2 : i < cnt y := by omega
    rw [if_neg (by omega)] at hx
    have vm := VM_at h0 hi hc2
    have cb := cnt_pos y
    have mlr := ml_range (mo y i) (lf y i)
    have o := off_range vm
    have yr := yd_range h0
    simp only [pentaglotlaw18_LunisolarMonths.l0]
    rw [Ms_len, if_pos hc2, if_pos hi, Ms_at hi hc2, MD_ent vm]
    simp only [Option.bind_some]
    rw [wrap_id (x := x + ml (mo y i) (lf y i)) (by omega) (by omega), wrap_id (x := i + 1) (by omega) (by omega)]
    refine ih k y _ (i + 1) h0 (by omega) (by omega) (by omega) (by omega) ?_
    by_cases g : i + 1 = cnt y
    · rw [if_pos g, hx]; exact off_last h0 g
    · rw [if_neg g, hx]; exact (off_next hi (by omega)).symm
theorem LunisolarMonths (y : Int) : ∃ k, pentaglotlaw18_LunisolarMonths.f k y = some true := by
  obtain ⟨K, hK⟩ : ∃ K : Nat, K = 999 := ⟨_, rfl⟩
  refine ⟨K + 1, ?_⟩
  unfold pentaglotlaw18_LunisolarMonths.f
  rw [awake_at (by omega)]
  simp only [Option.bind_some, if_true]
  by_cases h : y < 0
  · rw [Months_neg h]
    simp only [Option.bind_some]
    simp only [pentaglotlaw18_LunisolarMonths.l0]
    rw [if_neg (by simp), ref_Months_neg (by omega) h]
    simp only [Option.bind_some]
    rw [Same_at (by omega) _ (by simp)]
    simp only [Option.bind_some, if_true]
    rw [YearDays_at]
    unfold yd
    rw [if_pos h]
    rfl
  · have h0 : 0 ≤ y := by omega
    have cb := cnt_pos y
    rw [Months_at (by omega) h0]
    simp only [Option.bind_some]
    exact Months_sum (cnt y).toNat (K + 1) y 0 0 h0 (by omega) (by omega) (by omega) (by omega) (by rw [if_neg (by omega), off_0])

theorem LunisolarMonthDays (c y m d : Int) (l : Bool) (o : Int) : ∃ k, pentaglotlaw18_LunisolarMonthDays.f k c y m d l o = some true := by
  refine ⟨200, ?_⟩
  unfold pentaglotlaw18_LunisolarMonthDays.f
  rw [awake_at (by omega)]
  simp only [Option.bind_some, if_true]
  rw [ref_MonthDays (by omega)]
  have e : lunisolar_MonthDays.f c y m o l = lunisolar_MonthDays.f c y m d l := rfl
  rw [e]
  have hx : ∃ x, lunisolar_MonthDays.f c y m d l = some x := by
    by_cases h : c = 2 ∧ VM y m l
    · obtain ⟨rfl, v⟩ := h; exact ⟨_, MonthDays_yes v⟩
    · exact ⟨_, MonthDays_no h⟩
  obtain ⟨x, hx⟩ := hx
  rw [hx]
  simp

theorem day_yes {n : Int} (h0 : 0 ≤ n) (h1 : n ≤ 999999) : pentaglotlaw18_day.f n = some true := by
  unfold pentaglotlaw18_day.f
  rw [if_pos h0, decide_eq_true h1]
theorem day_no {n : Int} (h : n < 0 ∨ n > 999999) : pentaglotlaw18_day.f n = some false := by
  unfold pentaglotlaw18_day.f
  by_cases e : n ≥ 0
  · rw [if_pos e, decide_eq_false (by omega)]
  · rw [if_neg e]
theorem LunisolarDates (n : Int) : ∃ k, pentaglotlaw18_LunisolarDates.f k n = some true := by
  refine ⟨5000, ?_⟩
  unfold pentaglotlaw18_LunisolarDates.f
  rw [awake_at (by omega)]
  simp only [Option.bind_some, if_true]
  by_cases h : 0 ≤ n ∧ n ≤ 999999
  · obtain ⟨y, m, d, l, v, w, E⟩ := Date_yes (k := 5000) (by omega) h.1 h.2
    obtain ⟨y', m', d', l', v', w', E'⟩ := ref_Date_yes (k := 5000) (by omega) h.1 h.2
    obtain ⟨rfl, rfl, rfl, rfl⟩ := num_inj v' v (w'.trans w.symm)
    rw [E, E', day_yes h.1 h.2]
    simp
  · rw [Date_no _ (by omega), day_no (by omega)]
    rfl

theorem LunisolarDays (c y m d : Int) (l : Bool) : ∃ k, pentaglotlaw18_LunisolarDays.f k c y m d l = some true := by
  refine ⟨5000, ?_⟩
  unfold pentaglotlaw18_LunisolarDays.f
  rw [awake_at (by omega)]
  simp only [Option.bind_some, if_true]
  rw [ref_Day_at (by omega)]
  by_cases h : c = 2 ∧ VD y m d l
  · obtain ⟨rfl, v⟩ := h
    rw [Day_yes (by omega) v]
    simp
  · rw [Day_no (by omega) h]
    simp

theorem num_nonneg {y m d : Int} {l : Bool} (v : VD y m d l) : 0 ≤ num y m d l := by
  have := num_range v; have := S_bound v.1.1; omega
theorem Inverts_tail {k : Nat} (hk : 200 ≤ k) (c y m d : Int) (l : Bool) : pentaglotlaw18_LunisolarInverts.j0 (k + 1) c y m d l = some true := by
  simp only [pentaglotlaw18_LunisolarInverts.j0]
  by_cases h : c = 2 ∧ VD y m d l
  · obtain ⟨rfl, v⟩ := h
    rw [Day_yes (by omega) v]
    simp only [Option.bind_some]
    by_cases g : num y m d l ≤ 999999
    · rw [if_pos g]
      simp only [if_true]
      have n0 := num_nonneg v
      obtain ⟨y', m', d', l', v', w', E'⟩ := Date_yes (k := k) (by omega) n0 g
      obtain ⟨rfl, rfl, rfl, rfl⟩ := num_inj v' v w'
      rw [E', day_yes n0 g]
      simp
    · rw [if_neg g]
      simp
  · rw [Day_no (by omega) h]
    simp
theorem LunisolarInverts (n c y m d : Int) (l : Bool) : ∃ k, pentaglotlaw18_LunisolarInverts.f k n c y m d l = some true := by
  refine ⟨5000, ?_⟩
  unfold pentaglotlaw18_LunisolarInverts.f
  rw [awake_at (by omega)]
  simp only [Option.bind_some, if_true]
  have T := Inverts_tail (k := 4999) (by omega) c y m d l
  by_cases h : 0 ≤ n ∧ n ≤ 999999
  · obtain ⟨y', m', d', l', v, w, E⟩ := Date_yes (k := 5000) (by omega) h.1 h.2
    rw [day_yes h.1 h.2, E]
    simp only [Option.bind_some, if_true]
    rw [Day_yes (by omega) v, w, if_pos h.2]
    simp only [Option.bind_some, if_true]
    exact T
  · rw [day_no (by omega)]
    simp only [Option.bind_some]
    rw [if_neg (by decide)]
    exact T

theorem LunisolarRepeats (n : Int) : ∃ k, pentaglotlaw18_LunisolarRepeats.f k n = some true := by
  refine ⟨5000, ?_⟩
  unfold pentaglotlaw18_LunisolarRepeats.f
  rw [awake_at (by omega)]
  simp only [Option.bind_some, if_true]
  by_cases h : n < 0
  · rw [if_pos h]; simp [pentaglotlaw18_LunisolarRepeats.j0]
  · rw [if_neg h]
    by_cases g : n > 993063
    · rw [decide_eq_true g]; simp [pentaglotlaw18_LunisolarRepeats.j0]
    · rw [decide_eq_false g]
      simp only [pentaglotlaw18_LunisolarRepeats.j0]
      rw [if_neg (by decide), wrap_id (x := n + 6936) (by omega) (by omega)]
      obtain ⟨y, m, d, l, v, w, E⟩ := Date_yes (k := 4999) (by omega) (show 0 ≤ n by omega) (by omega)
      obtain ⟨y', m', d', l', v', w', E'⟩ := Date_yes (k := 4999) (by omega) (show 0 ≤ n + 6936 by omega) (by omega)
      have lp : Lp (y + 19) ↔ Lp y := by rw [Lp_iff, Lp_iff, show (y + 19) % 19 = y % 19 by omega]
      have v2 : VD (y + 19) m d l := ⟨⟨by have := v.1.1; omega, v.1.2.1, v.1.2.2.1, fun e => ⟨(v.1.2.2.2 e).1, lp.2 (v.1.2.2.2 e).2⟩⟩, v.2⟩
      have w2 : num (y + 19) m d l = n + 6936 := by
        rw [← w]
        unfold num off
        have : S (y + 19) = S y + 6936 := by unfold S; omega
        simp only [lp]
        omega
      obtain ⟨rfl, rfl, rfl, rfl⟩ := num_inj v' v2 (w'.trans w2.symm)
      rw [E, E']
      have sb := S_bound v.1.1
      have nr := num_range v
      simp only [Option.bind_some, if_true]
      rw [wrap_id (x := y + 19) (by have := v.1.1; omega) (by omega)]
      simp

theorem cmp_at (a b : Int) : cmp_Compare_int.f a b = some (if a < b then -1 else if a > b then 1 else 0) := by
  unfold cmp_Compare_int.f cmp_isNaN_int.f
  simp only [bne_self_eq_false, Option.bind_some]
  rw [if_neg (by decide), if_neg (by decide)]
  split
  · rfl
  · split <;> rfl
theorem order_at (a b : Int) : pentaglotref18_order.f a b = some (if a < b then -1 else if a > b then 1 else 0) := by
  unfold pentaglotref18_order.f
  split
  · rfl
  · split <;> rfl
theorem Before_at {y m d y' m' d' : Int} {l l' : Bool} (v : VD y m d l) (v' : VD y' m' d' l') : pentaglotref18_Before.f 2 y m d l 2 y' m' d' l' = some (if num y m d l < num y' m' d' l' then -1 else if num y m d l > num y' m' d' l' then 1 else 0) := by
  have val : ∀ (r : Int), ((Bef y m d l y' m' d' l' → r = -1) ∧ (Bef y' m' d' l' y m d l → r = 1) ∧ ((y = y' ∧ m = m' ∧ d = d' ∧ l = l') → r = 0)) → r = (if num y m d l < num y' m' d' l' then -1 else if num y m d l > num y' m' d' l' then 1 else 0) := by
    intro r ⟨r1, r2, r3⟩
    rcases Bef_or y m d l y' m' d' l' with b | b | b
    · have := num_lt v v' b
      rw [if_pos this]; exact r1 b
    · have := num_lt v' v b
      rw [if_neg (by omega), if_pos this]; exact r2 b
    · have e := r3 b
      obtain ⟨rfl, rfl, rfl, rfl⟩ := b
      rw [if_neg (by omega), if_neg (by omega)]; exact e
  unfold pentaglotref18_Before.f
  by_cases hy : y = y'
  · rw [if_pos hy]
    by_cases hm : m = m'
    · rw [if_pos hm]
      by_cases hl : l = l'
      · rw [if_neg (by simp [hl]), order_at]
        simp only [Option.bind_some]
        congr 1
        refine val _ ⟨fun b => ?_, fun b => ?_, fun b => ?_⟩
        · have : d < d' := by unfold Bef at b; subst hy; subst hm; subst hl; cases l <;> simp at b <;> omega
          rw [if_pos this]
        · have : d' < d := by unfold Bef at b; subst hy; subst hm; subst hl; cases l <;> simp at b <;> omega
          rw [if_neg (by omega), if_pos this]
        · rw [if_neg (by omega), if_neg (by omega)]
      · rw [if_pos (by simp [hl])]
        have hd : d = d' → False ∨ True := fun _ => .inr trivial
        cases l <;> cases l'
        · exact absurd rfl hl
        · rw [if_pos rfl]
          congr 1
          refine val _ ⟨fun b => rfl, fun b => ?_, fun b => ?_⟩
          · unfold Bef at b; subst hy; subst hm; simp at b
          · exact absurd b.2.2.2 hl
        · rw [if_neg (by decide)]
          congr 1
          refine val _ ⟨fun b => ?_, fun b => rfl, fun b => ?_⟩
          · unfold Bef at b; subst hy; subst hm; simp at b
          · exact absurd b.2.2.2 hl
        · exact absurd rfl hl
    · rw [if_neg hm, order_at]
      simp only [Option.bind_some]
      congr 1
      refine val _ ⟨fun b => ?_, fun b => ?_, fun b => absurd b.2.1 hm⟩
      · have : m < m' := by unfold Bef at b; omega
        rw [if_pos this]
      · have : m' < m := by unfold Bef at b; omega
        rw [if_neg (by omega), if_pos this]
  · rw [if_neg hy, order_at]
    simp only [Option.bind_some]
    congr 1
    refine val _ ⟨fun b => ?_, fun b => ?_, fun b => absurd b.1 hy⟩
    · have : y < y' := by unfold Bef at b; omega
      rw [if_pos this]
    · have : y' < y := by unfold Bef at b; omega
      rw [if_neg (by omega), if_pos this]
theorem LunisolarCompares (c y m d : Int) (l : Bool) (c' y' m' d' : Int) (l' : Bool) : ∃ k, pentaglotlaw18_LunisolarCompares.f k c y m d l c' y' m' d' l' = some true := by
  refine ⟨5000, ?_⟩
  unfold pentaglotlaw18_LunisolarCompares.f lunisolar_Compare.f
  rw [awake_at (by omega)]
  simp only [Option.bind_some, if_true]
  rw [ref_Day_at (by omega), ref_Day_at (by omega)]
  by_cases h : c = 2 ∧ VD y m d l
  · obtain ⟨rfl, v⟩ := h
    rw [Day_yes (by omega) v]
    simp only [Option.bind_some]
    by_cases g : num y m d l ≤ 999999
    · rw [if_pos g]
      simp only [if_true]
      by_cases h' : c' = 2 ∧ VD y' m' d' l'
      · obtain ⟨rfl, v'⟩ := h'
        rw [Day_yes (by omega) v']
        simp only [Option.bind_some]
        by_cases g' : num y' m' d' l' ≤ 999999
        · rw [if_pos g']
          simp only [if_true]
          rw [cmp_at, Before_at v v']
          simp only [Option.bind_some, if_true]
          by_cases a : num y m d l < num y' m' d' l'
          · rw [if_pos a]
            have b : ¬ num y m d l > num y' m' d' l' := by omega
            have e : ¬ num y m d l = num y' m' d' l' := by omega
            simp [a, b, e]
          · rw [if_neg a]
            by_cases b : num y m d l > num y' m' d' l'
            · rw [if_pos b]
              have e : ¬ num y m d l = num y' m' d' l' := by omega
              simp [a, b, e]
            · rw [if_neg b]
              have e : num y m d l = num y' m' d' l' := by omega
              simp [e]
        · rw [if_neg g']
          simp
      · rw [Day_no (by omega) h']
        simp
    · rw [if_neg g]
      by_cases h' : c' = 2 ∧ VD y' m' d' l'
      · obtain ⟨rfl, v'⟩ := h'
        rw [Day_yes (by omega) v']
        simp
      · rw [Day_no (by omega) h']
        simp
  · rw [Day_no (by omega) h]
    by_cases h' : c' = 2 ∧ VD y' m' d' l'
    · obtain ⟨rfl, v'⟩ := h'
      rw [Day_yes (by omega) v']
      simp
    · rw [Day_no (by omega) h']
      simp
end Go.Proofs.Ytfpegmnjplagfaa.Pure
