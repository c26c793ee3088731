-- WRITTEN BY mkprint.py, a program of this session, over the kit's print of the given program. Not trusted: Lean checks it.
import Derived.Test.YtpkgelednbibpaaDoorCx0
import Derived.Test.YtpkgelednbibpaaDoorCx1
import Derived.Test.YtpkgelednbibpaaDoorCx17
namespace Go.Proofs.YtpkgelednbibpaaDoor.C
open Go.RowKit Go.Proofs.YtpkgelednbibpaaDoorW.PrintWords Go.Proofs.YtpkgelednbibpaaDoorW.PrintLast Go.Proofs.YtpkgelednbibpaaDoorW.PrintMore
attribute [local go_sem] max2_int min2_int max_two min_two max_three min_three max_four min_four   -- for this text's walks alone
set_option linter.unusedVariables false
set_option linter.unusedSimpArgs false

/-! ### pentaglotref01_Classes: function 29 -/
set_option maxHeartbeats 8000000 in
set_option maxRecDepth 100000 in
theorem pentaglotref01_Classes.calls (k : Nat) (A0 : Option Addr) (c0 : Nat) (l0 : List (S42)) (a1 : Int) (r : Int) (w : World) (hr0 : Kd.C k42 w A0 l0.length l0) (hc0 : l0.length ≤ c0) (h : pentaglotref01_Classes.f k l0 a1 = some r) :
    Calls Tryd.prog 29 #[.slice A0 l0.length c0, .int .i32 a1] w fun e w' => e = .returned (.int .u32 r) ∧ Drawn0 w w' := by
  have HR0 := Aside0.mk hr0
  have HC0 := Aside0.mk hc0
  clear hr0 hc0
  have H : ((pentaglotref01_Index.f k l0 a1).bind fun t254 => (if t254 < 0 then (some 0) else (if 0 ≤ t254 then (if t254 < (l0.length : Int) then (some ((rd_T42 l0 t254).f1)) else (none)) else (none)))) = some r := h
  clear h
  replace H := Option.bind_eq_some_iff.mp H
  obtain ⟨t254, A30, H⟩ := H
  replace H : (if t254 < 0 then (some 0) else (if 0 ≤ t254 then (if t254 < (l0.length : Int) then (some ((rd_T42 l0 t254).f1)) else (none)) else (none))) = some r := H
  have A3 := Aside0.mk A30
  clear A30
  by_cases c4 : t254 < 0
  · rw [if_pos c4] at H
    have c4b0 : decide (t254 < 0) = true := decide_eq_true c4
    clear c4
    obtain rfl := Option.some.inj H
    go_enter Tryd.func29, Tryd.ntmps29
    go_wp2_with (first | ((with_reducible refine gate_callee (f := 27) rfl ?_); refine goesL_ (some 8) rfl rfl Tryd.func27 (by kernel_rfl) rfl #[.slice A0 l0.length c0, .int .i32 a1] rfl (by (try simp only [List.map_toArray, List.map_cons, List.map_nil]); first | done | rfl | (simp only [List.length_drop, List.length_take]; rfl)) ?_; (with_reducible refine (pentaglotref01_Index.calls k _ _ l0 a1 t254 _ ?side1 ?side2 A3.out).mono ?_); (case side1 => repeat (first | exact HR0.out | (with_reducible refine Kd.C_alloc ?_ _) | (with_reducible refine Kd.C_drewN ?_ _) | (with_reducible refine Kd.C_drew ?_))); (case side2 => exact HC0.out); rintro e w' ⟨rfl, ⟨nd, rfl⟩⟩; refine ⟨_, rfl, ?_⟩))
    go_ret
    exact ⟨by first | rfl | (simp; done) | (simp [*]; done), by repeat (first | exact Drawn0.refl _ | apply Drawn0.step)⟩
  · rw [if_neg c4] at H
    have c4b0 : decide (t254 < 0) = false := decide_eq_false c4
    clear c4
    by_cases c5 : 0 ≤ t254
    · rw [if_pos c5] at H
      have c5b0 : decide (0 ≤ t254) = true := decide_eq_true c5
      clear c5
      by_cases c6 : t254 < (l0.length : Int)
      · rw [if_pos c6] at H
        have c6b0 : decide (t254 < (l0.length : Int)) = true := decide_eq_true c6
        clear c6
        obtain rfl := Option.some.inj H
        go_enter Tryd.func29, Tryd.ntmps29
        go_wp2_with (first | ((with_reducible refine gate_callee (f := 27) rfl ?_); refine goesL_ (some 8) rfl rfl Tryd.func27 (by kernel_rfl) rfl #[.slice A0 l0.length c0, .int .i32 a1] rfl (by (try simp only [List.map_toArray, List.map_cons, List.map_nil]); first | done | rfl | (simp only [List.length_drop, List.length_take]; rfl)) ?_; (with_reducible refine (pentaglotref01_Index.calls k _ _ l0 a1 t254 _ ?side1 ?side2 A3.out).mono ?_); (case side1 => repeat (first | exact HR0.out | (with_reducible refine Kd.C_alloc ?_ _) | (with_reducible refine Kd.C_drewN ?_ _) | (with_reducible refine Kd.C_drew ?_))); (case side2 => exact HC0.out); rintro e w' ⟨rfl, ⟨nd, rfl⟩⟩; refine ⟨_, rfl, ?_⟩; have p255 : 0 ≤ (t254 : Int) := of_decide_eq_true (by first | (with_reducible assumption) | assumption); have q255 : t254 < (l0.length : Int) := of_decide_eq_true (by first | (with_reducible assumption) | assumption); obtain ⟨ad255, e255, hx255_0, hx255_1⟩ := at_T42 HR0.out t254 p255 q255; cases e255; replace p255 := eq_true p255; replace q255 := eq_true q255))
        go_ret
        exact ⟨by first | rfl | (simp; done) | (simp [*]; done), by repeat (first | exact Drawn0.refl _ | apply Drawn0.step)⟩
      · rw [if_neg c6] at H
        exact absurd H (by simp)
    · rw [if_neg c5] at H
      exact absurd H (by simp)

end Go.Proofs.YtpkgelednbibpaaDoor.C
