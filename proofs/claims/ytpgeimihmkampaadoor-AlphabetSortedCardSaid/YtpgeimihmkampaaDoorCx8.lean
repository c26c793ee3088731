-- WRITTEN BY mkprint.py, a program of this session, over the kit's print of the given program. Not trusted: Lean checks it.
import Derived.Test.YtpgeimihmkampaaDoorCx0
import Derived.Test.YtpgeimihmkampaaDoorCx1
import Derived.Test.YtpgeimihmkampaaDoorCx3
namespace Go.Proofs.YtpgeimihmkampaaDoor.C
open Go.RowKit Go.Proofs.YtpgeimihmkampaaDoorW.PrintWords Go.Proofs.YtpgeimihmkampaaDoorW.PrintLast Go.Proofs.YtpgeimihmkampaaDoorW.PrintMore
attribute [local go_sem] max2_int min2_int max_two min_two max_three min_three max_four min_four   -- for this text's walks alone
set_option linter.unusedVariables false
set_option linter.unusedSimpArgs false

/-! ### alphabet_Index: function 28 -/
set_option maxHeartbeats 8000000 in
set_option maxRecDepth 100000 in
theorem alphabet_Index.calls (A0 : Option Addr) (c0 : Nat) (l : List S42) (a1 : Int) (r : Int) (w : World) (hr0 : Kd.C k42 w A0 l.length l) (hc0 : l.length ≤ c0) (h : alphabet_Index.f l a1 = some r) :
    Calls Tryd.prog 28 #[.slice A0 l.length c0, .int .i32 a1] w fun e w' => e = .returned (.int .i64 r) ∧ Below w.heap.size w w' := by
  unfold alphabet_Index.f at h
  by_cases h1 : okA l = true
  · rw [if_pos h1] at h
    by_cases h2 : (Lit.int .i32 a1).wf = true
    · rw [if_pos h2] at h
      obtain rfl := Option.some.inj h
      have HR := Aside0.mk hr0
      have HG := Aside0.mk (okA_at h1)
      have HW := Aside0.mk h2
      clear hr0 h1 h2 h
      cases hf : firstIn l l.length a1 with
      | none =>
        have HF := Aside0.mk hf
        clear hf
        go_enter Tryd.func28, Tryd.ntmps28
        go_wp2_with (first | (go_at_call 40; refine (alphabet_indices.calls A0 c0 l _ HR.out hc0 HG.out.1 HG.out.2).mono ?_; rintro e w1 ⟨b, n, rfl, hb, ht, hbel⟩; have hlk := ht.look HW.out; rw [HF.out] at hlk; have HB1 := Aside0.mk hbel; clear hb ht hbel))
        go_ret
        exact ⟨rfl, HB1.out⟩
      | some i =>
        have HF := Aside0.mk hf
        clear hf
        go_enter Tryd.func28, Tryd.ntmps28
        go_wp2_with (first | (go_at_call 40; refine (alphabet_indices.calls A0 c0 l _ HR.out hc0 HG.out.1 HG.out.2).mono ?_; rintro e w1 ⟨b, n, rfl, hb, ht, hbel⟩; have hlk := ht.look HW.out; rw [HF.out] at hlk; have HB1 := Aside0.mk hbel; clear hb ht hbel))
        go_ret
        exact ⟨rfl, HB1.out⟩
    · rw [if_neg h2] at h
      exact absurd h (by simp)
  · rw [if_neg h1] at h
    exact absurd h (by simp)

/-! ### cmp_isNaN_int: function 58 -/
set_option maxHeartbeats 8000000 in
set_option maxRecDepth 100000 in
theorem cmp_isNaN_int.calls (a0 : Int) (r : Bool) (w : World) (h : cmp_isNaN_int.f a0 = some r) :
    Calls Tryd.prog 58 #[.int .i64 a0] w fun e w' => e = .returned (.bool r) ∧ Drawn0 w w' := by
  have H : (some (a0 != a0)) = some r := h
  clear h
  obtain rfl := Option.some.inj H
  go_enter Tryd.func58, Tryd.ntmps58
  go_wp2
  go_ret
  exact ⟨by first | rfl | (simp; done) | (simp [*]; done), by repeat (first | exact Drawn0.refl _ | apply Drawn0.step)⟩

end Go.Proofs.YtpgeimihmkampaaDoor.C
