-- WRITTEN BY mkprint.py, a program of this session, over the kit's print of the given program. Not trusted: Lean checks it.
import Derived.Test.YtpkgelednbibpaaDoorCx0
import Derived.Test.YtpkgelednbibpaaDoorCx1
namespace Go.Proofs.YtpkgelednbibpaaDoor.C
open Go.RowKit Go.Proofs.YtpkgelednbibpaaDoorW.PrintWords Go.Proofs.YtpkgelednbibpaaDoorW.PrintLast Go.Proofs.YtpkgelednbibpaaDoorW.PrintMore
attribute [local go_sem] max2_int min2_int max_two min_two max_three min_three max_four min_four   -- for this text's walks alone
set_option linter.unusedVariables false
set_option linter.unusedSimpArgs false

/-! ### pentaglotref01_Runes: function 32 -/
set_option maxHeartbeats 8000000 in
set_option maxRecDepth 100000 in
theorem pentaglotref01_Runes.calls (A0 : Option Addr) (c0 : Nat) (l0 : List Int) (A1 : Option Addr) (c1 : Nat) (l1 : List Int) (r : Bool) (w : World) (hr0 : Kd.C (Kd.int .i32) w A0 l0.length l0) (hc0 : l0.length ≤ c0) (hr1 : Kd.C (Kd.int .i32) w A1 l1.length l1) (hc1 : l1.length ≤ c1) (h : pentaglotref01_Runes.f l0 l1 = some r) :
    Calls Tryd.prog 32 #[.slice A0 l0.length c0, .slice A1 l1.length c1] w fun e w' => e = .returned (.bool r) ∧ Drawn0 w w' := by
  have HR0 := Aside0.mk hr0
  have HC0 := Aside0.mk hc0
  clear hr0 hc0
  have HR1 := Aside0.mk hr1
  have HC1 := Aside0.mk hc1
  clear hr1 hc1
  have H : (if (strOfRunes l0).toList = (strOfRunes l1).toList then (some ((l0.length : Int) == (l1.length : Int))) else (some false)) = some r := h
  clear h
  by_cases c3 : (strOfRunes l0).toList = (strOfRunes l1).toList
  · rw [if_pos c3] at H
    have c3b0 : ((strOfRunes l0).toList == (strOfRunes l1).toList) = true := beq_iff_eq.mpr c3
    have c3b1 : ((strOfRunes l0).toList != (strOfRunes l1).toList) = false := bne_eq_false_iff_eq.mpr c3
    clear c3
    obtain rfl := Option.some.inj H
    have hcv4 := Kd.C_rstring (P := Tryd.prog) (A := A0) (c := c0) Tryd.underlying28 Tryd.underlying21 Tryd.underlying9 HR0.out
    have hcv5 := Kd.C_rstring (P := Tryd.prog) (A := A1) (c := c1) Tryd.underlying28 Tryd.underlying21 Tryd.underlying9 HR1.out
    go_enter Tryd.func32, Tryd.ntmps32
    go_wp2
    go_ret
    exact ⟨by first | rfl | (simp; done) | (simp [*]; done), by repeat (first | exact Drawn0.refl _ | apply Drawn0.step)⟩
  · rw [if_neg c3] at H
    have c3b0 : ((strOfRunes l0).toList == (strOfRunes l1).toList) = false := beq_eq_false_iff_ne.mpr c3
    have c3b1 : ((strOfRunes l0).toList != (strOfRunes l1).toList) = true := bne_iff_ne.mpr c3
    obtain rfl := Option.some.inj H
    have hcv6 := Kd.C_rstring (P := Tryd.prog) (A := A0) (c := c0) Tryd.underlying28 Tryd.underlying21 Tryd.underlying9 HR0.out
    have hcv7 := Kd.C_rstring (P := Tryd.prog) (A := A1) (c := c1) Tryd.underlying28 Tryd.underlying21 Tryd.underlying9 HR1.out
    go_enter Tryd.func32, Tryd.ntmps32
    go_wp2
    go_ret
    exact ⟨by first | rfl | (simp; done) | (simp [*]; done), by repeat (first | exact Drawn0.refl _ | apply Drawn0.step)⟩

end Go.Proofs.YtpkgelednbibpaaDoor.C
