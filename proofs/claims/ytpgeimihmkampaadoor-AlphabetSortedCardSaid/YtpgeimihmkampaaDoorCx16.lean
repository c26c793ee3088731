-- WRITTEN BY mkprint.py, a program of this session, over the kit's print of the given program. Not trusted: Lean checks it.
import Derived.Test.YtpgeimihmkampaaDoorCx0
import Derived.Test.YtpgeimihmkampaaDoorCx1
namespace Go.Proofs.YtpgeimihmkampaaDoor.C
open Go.RowKit Go.Proofs.YtpgeimihmkampaaDoorW.PrintWords Go.Proofs.YtpgeimihmkampaaDoorW.PrintLast Go.Proofs.YtpgeimihmkampaaDoorW.PrintMore
attribute [local go_sem] max2_int min2_int max_two min_two max_three min_three max_four min_four   -- for this text's walks alone
set_option linter.unusedVariables false
set_option linter.unusedSimpArgs false

/-! ### pentaglotlaw01_few: function 17 -/
set_option maxHeartbeats 8000000 in
set_option maxRecDepth 100000 in
theorem pentaglotlaw01_few.calls (k : Nat) (A0 : Option Addr) (c0 : Nat) (l0 : List (S42)) (A1 : Option Addr) (c1 : Nat) (l1 : List ByteArray) (r : Bool) (w : World) (hr0 : Kd.C k42 w A0 l0.length l0) (hc0 : l0.length ≤ c0) (hr1 : Kd.C Kd.string w A1 l1.length l1) (hc1 : l1.length ≤ c1) (h : pentaglotlaw01_few.f k l0 l1 = some r) :
    Calls Tryd.prog 17 #[.slice A0 l0.length c0, .slice A1 l1.length c1] w fun e w' => e = .returned (.bool r) ∧ Drawn0 w w' := by
  have HR0 := Aside0.mk hr0
  have HC0 := Aside0.mk hc0
  clear hr0 hc0
  have HR1 := Aside0.mk hr1
  have HC1 := Aside0.mk hc1
  clear hr1 hc1
  have H : (pentaglotlaw01_few.l0 k l0 l1 0) = some r := h
  clear h
  have H' := Aside0.mk H
  clear H
  go_enter Tryd.func17, Tryd.ntmps17
  go_wp2
  go_loopg [5] k (fun kq v5 w' => ∃ (x5_1 : Int), v5 = .int .i64 x5_1 ∧ Aside0 (pentaglotlaw01_few.l0 kq l0 l1 x5_1 = some r) ∧ Aside0 (kq ≤ k) ∧ Drawn0 w w')
  case atStart => exact ⟨(0), (by first | rfl | (simp; done) | (simp [*]; done)), H', ⟨Nat.le_refl _⟩, by repeat (first | exact Drawn0.refl _ | apply Drawn0.step)⟩
  case round =>
    clear H'
    try clear c1
    try clear p2
    obtain ⟨x5_1, rfl, HA, HK1, ⟨m1, rfl⟩⟩ := hrel
    cases gk with
    | zero => exact absurd HA.out (by simp [pentaglotlaw01_few.l0])
    | succ k1 =>
      have H := HA.out
      clear HA
      simp only [pentaglotlaw01_few.l0] at H
      by_cases c3 : x5_1 < (l1.length : Int)
      · rw [if_pos c3] at H
        have c3b0 : decide (x5_1 < (l1.length : Int)) = true := decide_eq_true c3
        clear c3
        by_cases c4 : 0 ≤ x5_1
        · rw [if_pos c4] at H
          have c4b0 : decide (0 ≤ x5_1) = true := decide_eq_true c4
          clear c4
          by_cases c5 : ((rdOf ByteArray.empty l1 x5_1).size : Int) > 200
          · rw [if_pos c5] at H
            have c5b0 : decide (200 < ((rdOf ByteArray.empty l1 x5_1).size : Int)) = true := decide_eq_true c5
            have c5b1 : decide (200 < (rdOf ByteArray.empty l1 x5_1).size) = true := decide_eq_true (by omega)
            clear c5
            obtain rfl := Option.some.inj H
            have p130 : 0 ≤ (x5_1 : Int) := of_decide_eq_true (by first | (with_reducible assumption) | assumption)
            have q130 : x5_1 < (l1.length : Int) := of_decide_eq_true (by first | (with_reducible assumption) | assumption)
            obtain ⟨ad130, e130, hx130_0⟩ := Kd.at_string HR1.out x5_1 p130 q130
            cases e130
            replace p130 := eq_true p130
            replace q130 := eq_true q130
            go_wp2
            go_ret
            exact ⟨by first | rfl | (simp; done) | (simp [*]; done), by repeat (first | exact Drawn0.refl _ | apply Drawn0.step)⟩
          · rw [if_neg c5] at H
            have c5b0 : decide (200 < ((rdOf ByteArray.empty l1 x5_1).size : Int)) = false := decide_eq_false c5
            have c5b1 : decide (200 < (rdOf ByteArray.empty l1 x5_1).size) = false := decide_eq_false (by omega)
            clear c5
            have H' := Aside0.mk H
            clear H
            have p130 : 0 ≤ (x5_1 : Int) := of_decide_eq_true (by first | (with_reducible assumption) | assumption)
            have q130 : x5_1 < (l1.length : Int) := of_decide_eq_true (by first | (with_reducible assumption) | assumption)
            obtain ⟨ad130, e130, hx130_0⟩ := Kd.at_string HR1.out x5_1 p130 q130
            cases e130
            replace p130 := eq_true p130
            replace q130 := eq_true q130
            go_wp2
            go_roundg k1
            case measure => have := HK1.out; omega
            case rel => exact ⟨(wrap64 (x5_1 + 1)), (by first | rfl | (simp; done) | (simp [*]; done)), H', ⟨by have := HK1.out; omega⟩, by repeat (first | exact Drawn0.refl _ | apply Drawn0.step)⟩
        · rw [if_neg c4] at H
          exact absurd H (by simp)
      · rw [if_neg c3] at H
        have c3b0 : decide (x5_1 < (l1.length : Int)) = false := decide_eq_false c3
        clear c3
        by_cases c6 : (l0.length : Int) ≤ 70
        · rw [if_pos c6] at H
          have c6b0 : decide ((l0.length : Int) ≤ 70) = true := decide_eq_true c6
          have c6b1 : decide (l0.length ≤ 70) = true := decide_eq_true (by omega)
          clear c6
          obtain rfl := Option.some.inj H
          go_wp2
          go_ret
          exact ⟨by first | rfl | (simp; done) | (simp [*]; done), by repeat (first | exact Drawn0.refl _ | apply Drawn0.step)⟩
        · rw [if_neg c6] at H
          have c6b0 : decide ((l0.length : Int) ≤ 70) = false := decide_eq_false c6
          have c6b1 : decide (l0.length ≤ 70) = false := decide_eq_false (by omega)
          clear c6
          obtain rfl := Option.some.inj H
          go_wp2
          go_ret
          exact ⟨by first | rfl | (simp; done) | (simp [*]; done), by repeat (first | exact Drawn0.refl _ | apply Drawn0.step)⟩

end Go.Proofs.YtpgeimihmkampaaDoor.C
