-- WRITTEN BY mkprint.py, a program of this session, over the kit's print of the given program. Not trusted: Lean checks it.
import Derived.Test.YtfpegmnjplagfaaCx0
import Derived.Test.YtfpegmnjplagfaaCx2
import Derived.Test.YtfpegmnjplagfaaCx3
namespace Go.Proofs.Ytfpegmnjplagfaa.C
open Go.RowKit Go.Proofs.YtfpegmnjplagfaaW.PrintWords Go.Proofs.YtfpegmnjplagfaaW.PrintLast Go.Proofs.YtfpegmnjplagfaaW.PrintMore
attribute [local go_sem] max2_int min2_int max_two min_two max_three min_three max_four min_four   -- for this text's walks alone
set_option linter.unusedVariables false
set_option linter.unusedSimpArgs false

/-! ### lunisolar_MonthDays: function 21 -/
set_option maxHeartbeats 8000000 in
set_option maxRecDepth 100000 in
theorem lunisolar_MonthDays.calls (a0_0 a0_1 a0_2 a0_3 : Int) (a0_4 : Bool) (r : Int) (w : World) (h : lunisolar_MonthDays.f a0_0 a0_1 a0_2 a0_3 a0_4 = some r) :
    Calls Try.prog 21 #[.agg #[.int .i64 a0_0, .int .i64 a0_1, .int .i64 a0_2, .int .i64 a0_3, .bool a0_4]] w fun e w' => e = .returned (.int .i64 r) ∧ Below w.heap.size w w' := by
  have hu46 := Try.underlying46
  have fin : ∀ W, (∃ o1 o2, W = (w.alloc o1).alloc o2) → Below w.heap.size w W := by
    rintro W ⟨o1, o2, rfl⟩
    exact below_alloc (below_alloc (Below.refl _ _) _) _
  unfold lunisolar_MonthDays.f at h
  by_cases h0 : a0_0 = 2
  · have b0 : (a0_0 != 2) = false := bne_eq_false_iff_eq.mpr h0
    by_cases h1 : a0_1 < 0
    · rw [if_neg (by omega)] at h
      obtain rfl := Option.some.inj h
      clear h h0
      have b1 : decide (a0_1 < 0) = true := decide_eq_true h1
      clear h1
      go_enter Try.func21, Try.ntmps21
      go_wp2
      go_ret
      exact ⟨rfl, fin _ ⟨_, _, rfl⟩⟩
    · have b1 : decide (a0_1 < 0) = false := decide_eq_false h1
      by_cases h2 : a0_2 < 1
      · rw [if_neg (by omega)] at h
        obtain rfl := Option.some.inj h
        clear h h0 h1
        have b2 : decide (a0_2 < 1) = true := decide_eq_true h2
        clear h2
        go_enter Try.func21, Try.ntmps21
        go_wp2
        go_ret
        exact ⟨rfl, fin _ ⟨_, _, rfl⟩⟩
      · have b2 : decide (a0_2 < 1) = false := decide_eq_false h2
        by_cases h3 : a0_2 > 12
        · rw [if_neg (by omega)] at h
          obtain rfl := Option.some.inj h
          clear h h0 h1 h2
          have b3 : decide (12 < a0_2) = true := decide_eq_true h3
          clear h3
          go_enter Try.func21, Try.ntmps21
          go_wp2
          go_ret
          exact ⟨rfl, fin _ ⟨_, _, rfl⟩⟩
        · have b3 : decide (12 < a0_2) = false := decide_eq_false h3
          rw [if_pos (by omega)] at h
          cases a0_4 with
          | false =>
            rw [if_pos rfl] at h
            by_cases h4 : a0_2 % 2 = 1
            · rw [if_pos h4] at h
              obtain rfl := Option.some.inj h
              have h5 : Int.tmod a0_2 2 = 1 := by rw [Int.tmod_eq_emod_of_nonneg (by omega)]; exact h4
              clear h h0 h1 h2 h3
              go_enter Try.func21, Try.ntmps21
              go_wp2
              go_ret
              exact ⟨rfl, fin _ ⟨_, _, rfl⟩⟩
            · rw [if_neg h4] at h
              obtain rfl := Option.some.inj h
              have h6 : a0_2 % 2 = 0 := by omega
              have h5 : Int.tmod a0_2 2 = 0 := by rw [Int.tmod_eq_emod_of_nonneg (by omega)]; exact h6
              clear h h0 h1 h2 h3 h4
              go_enter Try.func21, Try.ntmps21
              go_wp2
              go_ret
              exact ⟨rfl, fin _ ⟨_, _, rfl⟩⟩
          | true =>
            rw [if_neg (by decide)] at h
            by_cases h4 : a0_2 = 6
            · rw [if_pos h4] at h
              obtain ⟨t, A5, h⟩ := Option.bind_eq_some_iff.mp h
              have A := Aside0.mk A5
              have b4 : (a0_2 == 6) = true := beq_iff_eq.mpr h4
              clear A5 h0 h1 h2 h3 h4
              cases t with
              | true =>
                rw [if_pos rfl] at h
                obtain rfl := Option.some.inj h
                clear h
                go_enter Try.func21, Try.ntmps21
                go_wp2_with (first | (go_at_call 14; (with_reducible refine (lunisolar_Leap.calls a0_1 true _ A.out).mono ?_); rintro e w' ⟨rfl, ⟨nd, rfl⟩⟩))
                go_ret
                exact ⟨rfl, by first | exact fin _ ⟨_, _, rfl⟩ | exact pw_below_drewN (fin _ ⟨_, _, rfl⟩) _⟩
              | false =>
                rw [if_neg (by decide)] at h
                obtain rfl := Option.some.inj h
                clear h
                go_enter Try.func21, Try.ntmps21
                go_wp2_with (first | (go_at_call 14; (with_reducible refine (lunisolar_Leap.calls a0_1 false _ A.out).mono ?_); rintro e w' ⟨rfl, ⟨nd, rfl⟩⟩))
                go_ret
                exact ⟨rfl, by first | exact fin _ ⟨_, _, rfl⟩ | exact pw_below_drewN (fin _ ⟨_, _, rfl⟩) _⟩
            · rw [if_neg h4] at h
              obtain rfl := Option.some.inj h
              have b4 : (a0_2 == 6) = false := beq_eq_false_iff_ne.mpr h4
              clear h h0 h1 h2 h3 h4
              go_enter Try.func21, Try.ntmps21
              go_wp2
              go_ret
              exact ⟨rfl, fin _ ⟨_, _, rfl⟩⟩
  · have b0 : (a0_0 != 2) = true := bne_iff_ne.mpr h0
    rw [if_neg (by omega)] at h
    obtain rfl := Option.some.inj h
    clear h h0
    go_enter Try.func21, Try.ntmps21
    go_wp2
    go_ret
    exact ⟨rfl, fin _ ⟨_, _, rfl⟩⟩

end Go.Proofs.Ytfpegmnjplagfaa.C
