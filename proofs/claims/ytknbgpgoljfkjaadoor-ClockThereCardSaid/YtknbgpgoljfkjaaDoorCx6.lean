-- WRITTEN BY mkprint.py, a program of this session, over the kit's print of the given program. Not trusted: Lean checks it.
import Derived.Test.YtknbgpgoljfkjaaDoorCx0
import Derived.Test.YtknbgpgoljfkjaaDoorCx2
namespace Go.Proofs.YtknbgpgoljfkjaaDoor.C
open Go.RowKit Go.Proofs.YtknbgpgoljfkjaaDoorW.PrintWords Go.Proofs.YtknbgpgoljfkjaaDoorW.PrintLast Go.Proofs.YtknbgpgoljfkjaaDoorW.PrintMore
attribute [local go_sem] max2_int min2_int max_two min_two max_three min_three max_four min_four   -- for this text's walks alone
set_option linter.unusedVariables false
set_option linter.unusedSimpArgs false

/-! ### clock_Periods: function 16 -/
set_option maxHeartbeats 8000000 in
set_option maxRecDepth 100000 in
theorem clock_Periods.calls (a0 : Int) (r : Int) (w : World) (hG : Glob w) (h : clock_Periods.f a0 = some r) :
    Calls Tryd.prog 16 #[.int .i64 a0] w fun e w' => e = .returned (.int .i64 r) ∧ Drawn0 w w' := by
  obtain ⟨c1, c2, c3⟩ := hG
  by_cases h1 : a0 = 1
  · subst h1
    obtain rfl : (1 : Int) = r := by simpa [clock_Periods.f] using h
    clear h
    go_enter Tryd.func16, Tryd.ntmps16
    go_wp2
    go_ret
    exact ⟨rfl, by repeat (first | exact Drawn0.refl _ | apply Drawn0.step)⟩
  by_cases h2 : a0 = 2
  · subst h2
    obtain rfl : (2 : Int) = r := by simpa [clock_Periods.f] using h
    clear h
    go_enter Tryd.func16, Tryd.ntmps16
    go_wp2
    go_ret
    exact ⟨rfl, by repeat (first | exact Drawn0.refl _ | apply Drawn0.step)⟩
  by_cases h3 : a0 = 3
  · subst h3
    obtain rfl : (6 : Int) = r := by simpa [clock_Periods.f] using h
    clear h
    go_enter Tryd.func16, Tryd.ntmps16
    go_wp2
    go_ret
    exact ⟨rfl, by repeat (first | exact Drawn0.refl _ | apply Drawn0.step)⟩
  obtain rfl : (0 : Int) = r := by simpa [clock_Periods.f, h1, h2, h3] using h
  clear h
  have b1 : (a0 == 1) = false := beq_eq_false_iff_ne.mpr h1
  have b2 : (a0 == 2) = false := beq_eq_false_iff_ne.mpr h2
  have b3 : (a0 == 3) = false := beq_eq_false_iff_ne.mpr h3
  go_enter Tryd.func16, Tryd.ntmps16
  go_wp2
  go_ret
  exact ⟨rfl, by repeat (first | exact Drawn0.refl _ | apply Drawn0.step)⟩

end Go.Proofs.YtknbgpgoljfkjaaDoor.C
