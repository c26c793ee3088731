/- The date of the next day, in plain numbers: the law LunisolarFollows. -/
import Derived.Test.YtfpegmnjplagfaaPure
namespace Go.Proofs.Ytfpegmnjplagfaa.Pure
open Go.RowKit Go.Proofs.Ytfpegmnjplagfaa.C

/-- What the last loop answers at the place of the date's month. -/
theorem Follows_at {k : Nat} (hk : 100 ≤ k) {y m d : Int} {l : Bool} (v : VD y m d l) (hd : d = ml m l) {y' m' d' : Int} {l' : Bool} (v' : VD y' m' d' l') (e : num y' m' d' l' = num y m d l + 1) (hs : S y ≤ 999999) :
    pentaglotlaw18_LunisolarFollows.j3 (k + 1) (Ms y) (place y m l) true 2 y m d l 2 y' m' d' l' = some true := by
  obtain ⟨p0, p1, p2, p3⟩ := place_at v.1
  have cb := cnt_pos y
  have h0 := v.1.1
  have sb := S_bound h0
  rw [pentaglotlaw18_LunisolarFollows.j3, if_pos rfl, wrap_id (x := place y m l + 1) (by omega) (by omega), Ms_len]
  have n0 : num y m d l = S y + off y m l + ml m l - 1 := by unfold num; omega
  by_cases g : place y m l + 1 < cnt y
  · have f := off_next p0 g
    have vm := VM_at h0 (show 0 ≤ place y m l + 1 by omega) g
    have mlr := ml_range (mo y (place y m l + 1)) (lf y (place y m l + 1))
    have w : num y (mo y (place y m l + 1)) 1 (lf y (place y m l + 1)) = num y m d l + 1 := by
      rw [p2, p3] at f
      unfold num at *
      omega
    obtain ⟨rfl, rfl, rfl, rfl⟩ := num_inj v' (⟨vm, by omega, by omega⟩ : VD y _ 1 _) (e.trans w.symm)
    rw [if_pos g, if_pos (by omega), Ms_at (by omega) g]
    simp [ent]
  · have f := off_last h0 (show place y m l + 1 = cnt y by omega)
    rw [p2, p3] at f
    have ys := yd_S h0
    have cb2 := cnt_pos (y + 1)
    have vm := VM_at (show 0 ≤ y + 1 by omega) (show (0 : Int) ≤ 0 by omega) (show 0 < cnt (y + 1) by omega)
    have mlr := ml_range (mo (y + 1) 0) (lf (y + 1) 0)
    have o0 := off_0 (y + 1)
    have w : num (y + 1) (mo (y + 1) 0) 1 (lf (y + 1) 0) = num y m d l + 1 := by
      unfold num at *
      omega
    obtain ⟨rfl, rfl, rfl, rfl⟩ := num_inj v' (⟨vm, by omega, by omega⟩ : VD (y + 1) _ 1 _) (e.trans w.symm)
    rw [if_neg g, wrap_id (x := y + 1) (by omega) (by omega), Months_at (by omega) (by omega)]
    simp only [Option.bind_some]
    rw [Ms_len, if_pos (by omega), if_pos (by omega), Ms_at (by omega) (by omega)]
    simp [ent]
theorem Follows_loop (n : Nat) : ∀ (k : Nat) (i y m d : Int) (l : Bool) (y' m' d' : Int) (l' : Bool), VD y m d l → d = ml m l → VD y' m' d' l' → num y' m' d' l' = num y m d l + 1 → S y ≤ 999999 →
    0 ≤ i → i ≤ place y m l → place y m l - i = n → 2 * n + 200 < k → pentaglotlaw18_LunisolarFollows.l0 k (Ms y) i 2 y m d l 2 y' m' d' l' = some true := by
  induction n with
  | zero =>
    intro k i y m d l y' m' d' l' v hd v' e hs hi hp hn hk
    obtain ⟨k, rfl⟩ : ∃ n, k = n + 2 := ⟨k - 2, by omega⟩
    obtain ⟨p0, p1, p2, p3⟩ := place_at v.1
    obtain rfl : i = place y m l := by omega
    have F := Follows_at (k := k) (by omega) v hd v' e hs
    rw [pentaglotlaw18_LunisolarFollows.l0]
    rw [Ms_len, if_pos p1, if_pos p0, Ms_at p0 p1, if_pos (show (ent y (mo y (place y m l)) (lf y (place y m l))).f2 = m from p2)]
    rw [show ((ent y (mo y (place y m l)) (lf y (place y m l))).f4 == l) = true by show (lf y (place y m l) == l) = true; rw [p3]; exact beq_self_eq_true l]
    exact F
  | succ n ih =>
    intro k i y m d l y' m' d' l' v hd v' e hs hi hp hn hk
    obtain ⟨k, rfl⟩ : ∃ n, k = n + 2 := ⟨k - 2, by omega⟩
    obtain ⟨p0, p1, p2, p3⟩ := place_at v.1
    have cb := cnt_pos y
    have hc : i < cnt y := by omega
    have hne : ¬ (mo y i = m ∧ lf y i = l) := fun e => by
      have := place_inj v.1 hi hc e.1 e.2
      omega
    have R := ih k (i + 1) y m d l y' m' d' l' v hd v' e hs (by omega) (by omega) (by omega) (by omega)
    have w2 : wrap64 (i + 1) = i + 1 := wrap_id (by omega) (by omega)
    have out : pentaglotlaw18_LunisolarFollows.j3 (k + 1) (Ms y) i false 2 y m d l 2 y' m' d' l' = some true := by
      rw [pentaglotlaw18_LunisolarFollows.j3]
      rw [if_neg (by decide), w2]
      exact R
    rw [pentaglotlaw18_LunisolarFollows.l0]
    rw [Ms_len, if_pos hc, if_pos hi, Ms_at hi hc]
    by_cases g : mo y i = m
    · rw [if_pos (show (ent y (mo y i) (lf y i)).f2 = m from g)]
      have b : ((ent y (mo y i) (lf y i)).f4 == l) = false := by
        rw [beq_eq_false_iff_ne]
        exact fun e => hne ⟨g, e⟩
      rw [b]
      exact out
    · rw [if_neg (show ¬ (ent y (mo y i) (lf y i)).f2 = m from g)]
      exact out
theorem LunisolarFollows (n : Int) : ∃ k, pentaglotlaw18_LunisolarFollows.f k n = some true := by
  obtain ⟨K, hK⟩ : ∃ K : Nat, K = 998 := ⟨_, rfl⟩
  refine ⟨K + 2, ?_⟩
  unfold pentaglotlaw18_LunisolarFollows.f
  rw [awake_at (by omega)]
  simp only [Option.bind_some, if_true]
  by_cases h : n < 0
  · rw [if_pos h, pentaglotlaw18_LunisolarFollows.j0, if_pos rfl]
  · rw [if_neg h]
    by_cases g : n ≥ 999999
    · rw [decide_eq_true g, pentaglotlaw18_LunisolarFollows.j0, if_pos rfl]
    · rw [decide_eq_false g, pentaglotlaw18_LunisolarFollows.j0, if_neg (by decide), wrap_id (x := n + 1) (by omega) (by omega)]
      obtain ⟨y, m, d, l, v, w, E⟩ := Date_yes (k := K + 1) (by omega) (show 0 ≤ n by omega) (by omega)
      obtain ⟨y', m', d', l', v', w', E'⟩ := Date_yes (k := K + 1) (by omega) (show 0 ≤ n + 1 by omega) (by omega)
      have nr := num_range v
      have sb := S_bound v.1.1
      have v2 := v.2
      rw [E, E']
      simp only [Option.bind_some, if_true]
      rw [show ((0 : Int) != 0) = false by decide, pentaglotlaw18_LunisolarFollows.j1, if_neg (by decide), MonthDays_yes v.1]
      simp only [Option.bind_some]
      by_cases c : d < ml m l
      · rw [if_pos c]
        have w2 : num y m (d + 1) l = n + 1 := by unfold num at *; omega
        obtain ⟨rfl, rfl, rfl, rfl⟩ := num_inj v' (⟨v.1, by omega, by omega⟩ : VD y m (d + 1) l) (w'.trans w2.symm)
        have mlr := ml_range m' l'
        rw [wrap_id (x := d + 1) (by omega) (by omega)]
        simp
      · rw [if_neg c, Months_at (by omega) v.1.1]
        simp only [Option.bind_some]
        obtain ⟨p0, p1, p2, p3⟩ := place_at v.1
        have cb := cnt_pos y
        exact Follows_loop (place y m l).toNat K 0 y m d l y' m' d' l' v (by omega) v' (by omega) (by omega) (by omega) p0 (by omega) (by omega)
end Go.Proofs.Ytfpegmnjplagfaa.Pure
