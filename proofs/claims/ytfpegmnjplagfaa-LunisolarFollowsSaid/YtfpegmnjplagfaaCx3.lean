-- WRITTEN BY mkprint.py, a program of this session, over the kit's print of the given program. Not trusted: Lean checks it.
import Derived.Test.YtfpegmnjplagfaaCx0
import Derived.Test.YtfpegmnjplagfaaCx2
namespace Go.Proofs.Ytfpegmnjplagfaa.C
open Go.RowKit Go.Proofs.YtfpegmnjplagfaaW.PrintWords Go.Proofs.YtfpegmnjplagfaaW.PrintLast Go.Proofs.YtfpegmnjplagfaaW.PrintMore
attribute [local go_sem] max2_int min2_int max_two min_two max_three min_three max_four min_four   -- for this text's walks alone
set_option linter.unusedVariables false
set_option linter.unusedSimpArgs false

/-! ### lunisolar_Leap: function 14 -/
set_option maxHeartbeats 8000000 in
set_option maxRecDepth 100000 in
theorem lunisolar_Leap.calls (a0 : Int) (r : Bool) (w : World) (h : lunisolar_Leap.f a0 = some r) :
    Calls Try.prog 14 #[.int .i64 a0] w fun e w' => e = .returned (.bool r) ∧ Drawn0 w w' := by
  have H : (if a0 < 0 then (some false) else (if (Int.tmod a0 19) = 2 then (some true) else (if (Int.tmod a0 19) = 5 then (some true) else (if (Int.tmod a0 19) = 7 then (some true) else (if (Int.tmod a0 19) = 10 then (some true) else (if (Int.tmod a0 19) = 13 then (some true) else (if (Int.tmod a0 19) = 15 then (some true) else (if (Int.tmod a0 19) = 18 then (some true) else (some false))))))))) = some r := h
  clear h
  by_cases c2 : a0 < 0
  · rw [if_pos c2] at H
    have c2b0 : decide (a0 < 0) = true := decide_eq_true c2
    clear c2
    obtain rfl := Option.some.inj H
    go_enter Try.func14, Try.ntmps14
    go_wp2
    go_ret
    exact ⟨by first | rfl | (simp; done) | (simp [*]; done), by repeat (first | exact Drawn0.refl _ | apply Drawn0.step)⟩
  · rw [if_neg c2] at H
    have c2b0 : decide (a0 < 0) = false := decide_eq_false c2
    clear c2
    by_cases c3 : (Int.tmod a0 19) = 2
    · rw [if_pos c3] at H
      have c3b0 : ((Int.tmod a0 19) == 2) = true := beq_iff_eq.mpr c3
      have c3b1 : ((Int.tmod a0 19) != 2) = false := bne_eq_false_iff_eq.mpr c3
      clear c3
      obtain rfl := Option.some.inj H
      go_enter Try.func14, Try.ntmps14
      go_wp2
      go_ret
      exact ⟨by first | rfl | (simp; done) | (simp [*]; done), by repeat (first | exact Drawn0.refl _ | apply Drawn0.step)⟩
    · rw [if_neg c3] at H
      have c3b0 : ((Int.tmod a0 19) == 2) = false := beq_eq_false_iff_ne.mpr c3
      have c3b1 : ((Int.tmod a0 19) != 2) = true := bne_iff_ne.mpr c3
      by_cases c4 : (Int.tmod a0 19) = 5
      · rw [if_pos c4] at H
        have c4b0 : ((Int.tmod a0 19) == 5) = true := beq_iff_eq.mpr c4
        have c4b1 : ((Int.tmod a0 19) != 5) = false := bne_eq_false_iff_eq.mpr c4
        clear c4
        obtain rfl := Option.some.inj H
        go_enter Try.func14, Try.ntmps14
        go_wp2
        go_ret
        exact ⟨by first | rfl | (simp; done) | (simp [*]; done), by repeat (first | exact Drawn0.refl _ | apply Drawn0.step)⟩
      · rw [if_neg c4] at H
        have c4b0 : ((Int.tmod a0 19) == 5) = false := beq_eq_false_iff_ne.mpr c4
        have c4b1 : ((Int.tmod a0 19) != 5) = true := bne_iff_ne.mpr c4
        by_cases c5 : (Int.tmod a0 19) = 7
        · rw [if_pos c5] at H
          have c5b0 : ((Int.tmod a0 19) == 7) = true := beq_iff_eq.mpr c5
          have c5b1 : ((Int.tmod a0 19) != 7) = false := bne_eq_false_iff_eq.mpr c5
          clear c5
          obtain rfl := Option.some.inj H
          go_enter Try.func14, Try.ntmps14
          go_wp2
          go_ret
          exact ⟨by first | rfl | (simp; done) | (simp [*]; done), by repeat (first | exact Drawn0.refl _ | apply Drawn0.step)⟩
        · rw [if_neg c5] at H
          have c5b0 : ((Int.tmod a0 19) == 7) = false := beq_eq_false_iff_ne.mpr c5
          have c5b1 : ((Int.tmod a0 19) != 7) = true := bne_iff_ne.mpr c5
          by_cases c6 : (Int.tmod a0 19) = 10
          · rw [if_pos c6] at H
            have c6b0 : ((Int.tmod a0 19) == 10) = true := beq_iff_eq.mpr c6
            have c6b1 : ((Int.tmod a0 19) != 10) = false := bne_eq_false_iff_eq.mpr c6
            clear c6
            obtain rfl := Option.some.inj H
            go_enter Try.func14, Try.ntmps14
            go_wp2
            go_ret
            exact ⟨by first | rfl | (simp; done) | (simp [*]; done), by repeat (first | exact Drawn0.refl _ | apply Drawn0.step)⟩
          · rw [if_neg c6] at H
            have c6b0 : ((Int.tmod a0 19) == 10) = false := beq_eq_false_iff_ne.mpr c6
            have c6b1 : ((Int.tmod a0 19) != 10) = true := bne_iff_ne.mpr c6
            by_cases c7 : (Int.tmod a0 19) = 13
            · rw [if_pos c7] at H
              have c7b0 : ((Int.tmod a0 19) == 13) = true := beq_iff_eq.mpr c7
              have c7b1 : ((Int.tmod a0 19) != 13) = false := bne_eq_false_iff_eq.mpr c7
              clear c7
              obtain rfl := Option.some.inj H
              go_enter Try.func14, Try.ntmps14
              go_wp2
              go_ret
              exact ⟨by first | rfl | (simp; done) | (simp [*]; done), by repeat (first | exact Drawn0.refl _ | apply Drawn0.step)⟩
            · rw [if_neg c7] at H
              have c7b0 : ((Int.tmod a0 19) == 13) = false := beq_eq_false_iff_ne.mpr c7
              have c7b1 : ((Int.tmod a0 19) != 13) = true := bne_iff_ne.mpr c7
              by_cases c8 : (Int.tmod a0 19) = 15
              · rw [if_pos c8] at H
                have c8b0 : ((Int.tmod a0 19) == 15) = true := beq_iff_eq.mpr c8
                have c8b1 : ((Int.tmod a0 19) != 15) = false := bne_eq_false_iff_eq.mpr c8
                clear c8
                obtain rfl := Option.some.inj H
                go_enter Try.func14, Try.ntmps14
                go_wp2
                go_ret
                exact ⟨by first | rfl | (simp; done) | (simp [*]; done), by repeat (first | exact Drawn0.refl _ | apply Drawn0.step)⟩
              · rw [if_neg c8] at H
                have c8b0 : ((Int.tmod a0 19) == 15) = false := beq_eq_false_iff_ne.mpr c8
                have c8b1 : ((Int.tmod a0 19) != 15) = true := bne_iff_ne.mpr c8
                by_cases c9 : (Int.tmod a0 19) = 18
                · rw [if_pos c9] at H
                  have c9b0 : ((Int.tmod a0 19) == 18) = true := beq_iff_eq.mpr c9
                  have c9b1 : ((Int.tmod a0 19) != 18) = false := bne_eq_false_iff_eq.mpr c9
                  clear c9
                  obtain rfl := Option.some.inj H
                  go_enter Try.func14, Try.ntmps14
                  go_wp2
                  go_ret
                  exact ⟨by first | rfl | (simp; done) | (simp [*]; done), by repeat (first | exact Drawn0.refl _ | apply Drawn0.step)⟩
                · rw [if_neg c9] at H
                  have c9b0 : ((Int.tmod a0 19) == 18) = false := beq_eq_false_iff_ne.mpr c9
                  have c9b1 : ((Int.tmod a0 19) != 18) = true := bne_iff_ne.mpr c9
                  obtain rfl := Option.some.inj H
                  go_enter Try.func14, Try.ntmps14
                  go_wp2
                  go_ret
                  exact ⟨by first | rfl | (simp; done) | (simp [*]; done), by repeat (first | exact Drawn0.refl _ | apply Drawn0.step)⟩

end Go.Proofs.Ytfpegmnjplagfaa.C
