-- WRITTEN BY mkprint.py, a program of this session, over the kit's print of the given program. Not trusted: Lean checks it.
import Derived.Test.YtpgeimihmkampaaDoorCx0
import Derived.Test.YtpgeimihmkampaaDoorCx1
import Derived.Test.YtpgeimihmkampaaDoorCx45
namespace Go.Proofs.YtpgeimihmkampaaDoor.C
open Go.RowKit Go.Proofs.YtpgeimihmkampaaDoorW.PrintWords Go.Proofs.YtpgeimihmkampaaDoorW.PrintLast Go.Proofs.YtpgeimihmkampaaDoorW.PrintMore
attribute [local go_sem] max2_int min2_int max_two min_two max_three min_three max_four min_four   -- for this text's walks alone
set_option linter.unusedVariables false
set_option linter.unusedSimpArgs false

/-! ### slices_rotateCmpFunc_string: function 59 -/
set_option maxHeartbeats 8000000 in
set_option maxRecDepth 100000 in
theorem rot_calls {w : World} {g cap : Nat} {xs : List Tg} (h : Sb w g cap xs) (a m b i0 j0 : Nat) (hi : 0 < i0) (hj : 0 < j0) (ha : a + i0 = m) (hm : m + j0 = b) (hb : b ≤ xs.length) (hs : xs.length ≤ 1000000) (c : Value) :
    Calls Tryd.prog 59 #[.slice (some ⟨g, 0, none⟩) xs.length cap, .int .i64 a, .int .i64 m, .int .i64 b, c] w fun e w' => e = .returned (.tuple #[]) ∧ Sb w' g cap (Stb.rot m (i0 + j0) xs i0 j0) ∧ w.grownBy w' (some g) := by
  obtain ⟨N, hN⟩ : ∃ N, xs.length = N := ⟨_, rfl⟩
  rw [hN] at hb hs ⊢
  have HN := Aside0.mk hN
  have HB0 := Aside0.mk h
  have HAB := Aside0.mk (And.intro hi (And.intro hj (And.intro ha (And.intro hm (And.intro hb hs)))))
  have hwi0 : wrap64 ((m : Int) - (a : Int)) = (i0 : Int) := by unfold wrap64; omega
  have hwj0 : wrap64 ((b : Int) - (m : Int)) = (j0 : Int) := by unfold wrap64; omega
  clear h hi hj ha hm hb hs hN
  go_enter Tryd.func59, Tryd.ntmps59
  go_wp2
  go_loopg [10, 11] (i0 + j0) (fun kq v5 v6 w' => ∃ (i j : Nat) (ys : List Tg), v5 = .int .i64 (i : Int) ∧ v6 = .int .i64 (j : Int) ∧ Aside0 (0 < i ∧ 0 < j ∧ i ≤ m ∧ m + j ≤ N ∧ i + j ≤ kq ∧ ys.length = N) ∧ Aside0 (Stb.rot m kq ys i j = Stb.rot m (i0 + j0) xs i0 j0) ∧ Aside0 (Sb w' g cap ys) ∧ Aside0 (w.grownBy w' (some g)))
  case atStart => exact ⟨i0, j0, xs, (by rw [hwi0]), (by rw [hwj0]), ⟨by have := HAB.out; have := HN.out; omega⟩, ⟨rfl⟩, HB0, ⟨sg_refl _ _⟩⟩
  case round =>
    clear HB0 hwi0 hwj0
    obtain ⟨i, j, ys, rfl, rfl, HI, HR, HB, HG⟩ := hrel
    obtain ⟨k1, rfl⟩ : ∃ q, gk = q + 1 := ⟨gk - 1, by have := HI.out; omega⟩
    obtain ⟨p, hp⟩ : ∃ p, p + i = m := ⟨m - i, by have := HI.out; omega⟩
    have hpm : m - i = p := by omega
    have hwp : wrap64 ((m : Int) - (i : Int)) = (p : Int) := by have h1 := HI.out; have h2 := HAB.out.2.2.2.2.2; rw [sw_id (by omega) (by omega)]; omega
    have HR1 := HR.out
    rw [Stb.rot_eq m k1 ys i j] at HR1
    rw [hpm] at HR1
    by_cases c1 : i = j
    · subst c1
      rw [if_pos rfl] at HR1
      have HC := Aside0.mk (swr_calls HB.out p m i (by omega) (by have := HI.out; omega) (by have := HI.out; have := HAB.out; omega) c)
      have e1 : ((i : Int) != (i : Int)) = false := by simp
      have HR2 := Aside0.mk HR1
      have hyl := HI.out.2.2.2.2.2
      rw [hyl] at HC
      clear HR1 hp hpm hyl
      go_wp2_with (first | (go_at_call 60; (with_reducible refine HC.out.mono ?_); rintro e w1 ⟨rfl, hb, hg⟩; have HB5 := Aside0.mk hb; have HG5 := Aside0.mk (sg_trans HG.out hg); clear hb hg))
      all_goals
        go_end0
        exact ⟨rfl, HR2.out ▸ HB5.out, HG5.out⟩
    · rw [if_neg c1] at HR1
      have e1 : ((i : Int) != (j : Int)) = true := by simp; omega
      have e2 : (i != j) = true := by simp [c1]
      by_cases c2 : i > j
      · rw [if_pos c2] at HR1
        have HC := Aside0.mk (swr_calls HB.out p m j (by omega) (by have := HI.out; omega) (by have := HI.out; have := HAB.out; omega) c)
        have hyl := HI.out.2.2.2.2.2
        rw [hyl] at HC
        have HR2 := Aside0.mk HR1
        have d1 : decide ((j : Int) < (i : Int)) = true := decide_eq_true (by omega)
        have d2 : decide (j < i) = true := decide_eq_true (by omega)
        have hw3 : wrap64 ((i : Int) - (j : Int)) = ((i - j : Nat) : Int) := by have h1 := HI.out; have h2 := HAB.out.2.2.2.2.2; rw [sw_id (by omega) (by omega)]; omega
        have HI2 := Aside0.mk (show 0 < i - j ∧ 0 < j ∧ i - j ≤ m ∧ m + j ≤ N ∧ i - j + j ≤ k1 ∧ (Stb.swr ys p m j).length = N by rw [Stb.swr_len]; have := HI.out; omega)
        clear HR1 hp hpm hyl c1 c2
        go_wp2_with (first | (go_at_call 60; (with_reducible refine HC.out.mono ?_); rintro e w1 ⟨rfl, hb, hg⟩; have HB5 := Aside0.mk hb; have HG5 := Aside0.mk (sg_trans HG.out hg); clear hb hg))
        all_goals
          go_roundg k1
          case measure => omega
          case rel => exact ⟨i - j, j, _, by rw [hw3], rfl, HI2, HR2, HB5, HG5⟩
      · rw [if_neg c2] at HR1
        have hpq : m + j - i = p + j := by omega
        rw [hpq] at HR1
        have hwq : wrap64 (wrap64 ((m : Int) + (j : Int)) - (i : Int)) = ((p + j : Nat) : Int) := by have h1 := HI.out; have h2 := HAB.out.2.2.2.2.2; rw [sw_id (x := (m : Int) + (j : Int)) (by omega) (by omega), sw_id (by omega) (by omega)]; omega
        obtain ⟨q, hq⟩ : ∃ q, p + j = q := ⟨_, rfl⟩
        rw [hq] at hwq HR1
        have HC := Aside0.mk (swr_calls HB.out p q i (by omega) (by have := HI.out; omega) (by have := HI.out; have := HAB.out; omega) c)
        have hyl := HI.out.2.2.2.2.2
        rw [hyl] at HC
        have HR2 := Aside0.mk HR1
        have d1 : decide ((j : Int) < (i : Int)) = false := decide_eq_false (by omega)
        have d2 : decide (j < i) = false := decide_eq_false (by omega)
        have hw3 : wrap64 ((j : Int) - (i : Int)) = ((j - i : Nat) : Int) := by have h1 := HI.out; have h2 := HAB.out.2.2.2.2.2; rw [sw_id (by omega) (by omega)]; omega
        have HI2 := Aside0.mk (show 0 < i ∧ 0 < j - i ∧ i ≤ m ∧ m + (j - i) ≤ N ∧ i + (j - i) ≤ k1 ∧ (Stb.swr ys p q i).length = N by rw [Stb.swr_len]; have := HI.out; omega)
        clear HR1 hp hpm hyl c1 c2 hpq hq
        go_wp2_with (first | (go_at_call 60; (with_reducible refine HC.out.mono ?_); rintro e w1 ⟨rfl, hb, hg⟩; have HB5 := Aside0.mk hb; have HG5 := Aside0.mk (sg_trans HG.out hg); clear hb hg))
        all_goals
          go_roundg k1
          case measure => omega
          case rel => exact ⟨i, j - i, _, rfl, by rw [hw3], HI2, HR2, HB5, HG5⟩

end Go.Proofs.YtpgeimihmkampaaDoor.C
