-- WRITTEN BY mkprint.py, a program of this session, over the kit's print of the given program. Not trusted: Lean checks it.
import Derived.Test.YtpkgelednbibpaaDoorCx0
import Derived.Test.YtpkgelednbibpaaDoorCx1
import Derived.Test.YtpkgelednbibpaaDoorCx3
namespace Go.Proofs.YtpkgelednbibpaaDoor.C
open Go.RowKit Go.Proofs.YtpkgelednbibpaaDoorW.PrintWords Go.Proofs.YtpkgelednbibpaaDoorW.PrintLast Go.Proofs.YtpkgelednbibpaaDoorW.PrintMore
attribute [local go_sem] max2_int min2_int max_two min_two max_three min_three max_four min_four   -- for this text's walks alone
set_option linter.unusedVariables false
set_option linter.unusedSimpArgs false

/-! ### alphabet_Classes: function 28 -/
set_option maxHeartbeats 8000000 in
set_option maxRecDepth 100000 in
theorem alphabet_Classes.calls (A0 : Option Addr) (c0 : Nat) (l : List S42) (a1 : Int) (r : Int) (w : World) (hr0 : Kd.C k42 w A0 l.length l) (hc0 : l.length ≤ c0) (h : alphabet_Classes.f l a1 = some r) :
    Calls Tryd.prog 28 #[.slice A0 l.length c0, .int .i32 a1] w fun e w' => e = .returned (.int .u32 r) ∧ Below w.heap.size w w' := by
  unfold alphabet_Classes.f at h
  by_cases h1 : okA l = true
  · rw [if_pos h1] at h
    by_cases h2 : (Lit.int .i32 a1).wf = true
    · rw [if_pos h2] at h
      have HR := Aside0.mk hr0
      have HG := Aside0.mk (okA_at h1)
      have HW := Aside0.mk h2
      clear h1 h2
      cases hf : firstIn l l.length a1 with
      | none =>
        rw [hf] at h
        obtain rfl := Option.some.inj h
        have HF := Aside0.mk hf
        clear hf h hr0
        go_enter Tryd.func28, Tryd.ntmps28
        go_wp2_with (first | (go_at_call 36; refine (alphabet_indices.calls A0 c0 l _ HR.out hc0 HG.out.1 HG.out.2).mono ?_; rintro e w1 ⟨b, n, rfl, hb, ht, hbel⟩; have hlk := ht.look HW.out; rw [HF.out] at hlk; have HB1 := Aside0.mk hbel; clear hb ht hbel))
        go_ret
        exact ⟨rfl, HB1.out⟩
      | some i =>
        rw [hf] at h
        obtain rfl := Option.some.inj h
        have HF := Aside0.mk hf
        obtain ⟨i0, i1⟩ := firstIn_range (Nat.le_refl _) hf
        obtain ⟨ad, rfl, -, -⟩ := at_T42 hr0 i i0 i1
        have p1 : (0 ≤ i) = True := eq_true i0
        have q2 : (i < (l.length : Int)) = True := eq_true i1
        have I0 := Aside0.mk i0
        have I1 := Aside0.mk i1
        clear hf h hr0 i0 i1
        go_enter Tryd.func28, Tryd.ntmps28
        go_wp2_with (first | (go_at_call 36; refine (alphabet_indices.calls (some ad) c0 l _ HR.out hc0 HG.out.1 HG.out.2).mono ?_; rintro e w1 ⟨b, n, rfl, hb, ht, hbel⟩; have hlk := ht.look HW.out; rw [HF.out] at hlk; have HB1 := Aside0.mk hbel; obtain ⟨ad2, ead2, hx0, hx1⟩ := at_T42 (Kd.C_below HR.out hbel) i I0.out I1.out; obtain rfl : ad = ad2 := (by injection ead2); clear hb ht hbel))
        go_ret
        exact ⟨rfl, HB1.out⟩
    · rw [if_neg h2] at h
      exact absurd h (by simp)
  · rw [if_neg h1] at h
    exact absurd h (by simp)

end Go.Proofs.YtpkgelednbibpaaDoor.C
