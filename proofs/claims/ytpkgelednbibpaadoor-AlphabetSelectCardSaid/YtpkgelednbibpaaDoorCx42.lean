-- WRITTEN BY mkprint.py, a program of this session, over the kit's print of the given program. Not trusted: Lean checks it.
import Derived.Test.YtpkgelednbibpaaDoorCx0
import Derived.Test.YtpkgelednbibpaaDoorCx1
namespace Go.Proofs.YtpkgelednbibpaaDoor.C
open Go.RowKit Go.Proofs.YtpkgelednbibpaaDoorW.PrintWords Go.Proofs.YtpkgelednbibpaaDoorW.PrintLast Go.Proofs.YtpkgelednbibpaaDoorW.PrintMore
attribute [local go_sem] max2_int min2_int max_two min_two max_three min_three max_four min_four   -- for this text's walks alone
set_option linter.unusedVariables false
set_option linter.unusedSimpArgs false

/-! ### pentaglotref01_Has: function 42 -/
set_option maxHeartbeats 8000000 in
set_option maxRecDepth 100000 in
theorem pentaglotref01_Has.calls (a0 : Int) (a1 : Int) (r : Bool) (w : World) (h : pentaglotref01_Has.f a0 a1 = some r) :
    Calls Tryd.prog 42 #[.int .u32 a0, .int .u32 a1] w fun e w' => e = .returned (.bool r) ∧ Drawn0 w w' := by
  have H : (some ((Go.bits .and .u32 a0 a1) == a1)) = some r := h
  clear h
  obtain rfl := Option.some.inj H
  go_enter Tryd.func42, Tryd.ntmps42
  go_wp2
  go_ret
  exact ⟨by first | rfl | (simp; done) | (simp [*]; done), by repeat (first | exact Drawn0.refl _ | apply Drawn0.step)⟩

end Go.Proofs.YtpkgelednbibpaaDoor.C
