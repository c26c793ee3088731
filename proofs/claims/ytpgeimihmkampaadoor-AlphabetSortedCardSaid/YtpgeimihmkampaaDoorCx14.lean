-- WRITTEN BY mkprint.py, a program of this session, over the kit's print of the given program. Not trusted: Lean checks it.
import Derived.Test.YtpgeimihmkampaaDoorCx0
import Derived.Test.YtpgeimihmkampaaDoorCx1
import Derived.Test.YtpgeimihmkampaaDoorCx3
namespace Go.Proofs.YtpgeimihmkampaaDoor.C
open Go.RowKit Go.Proofs.YtpgeimihmkampaaDoorW.PrintWords Go.Proofs.YtpgeimihmkampaaDoorW.PrintLast Go.Proofs.YtpgeimihmkampaaDoorW.PrintMore
attribute [local go_sem] max2_int min2_int max_two min_two max_three min_three max_four min_four   -- for this text's walks alone
set_option linter.unusedVariables false
set_option linter.unusedSimpArgs false

/-! ### alphabet_Partner: function 32 -/
set_option maxHeartbeats 8000000 in
set_option maxRecDepth 100000 in
theorem alphabet_Partner.calls (k : Nat) (A0 : Option Addr) (c0 : Nat) (l : List S42) (a1 : Int) (a2 : Int) (r1 : Int) (r2 : Bool) (w : World) (hr0 : Kd.C k42 w A0 l.length l) (hc0 : l.length ≤ c0) (h : alphabet_Partner.f k l a1 a2 = some (r1, r2)) :
    Calls Tryd.prog 32 #[.slice A0 l.length c0, .int .i32 a1, .int .u32 a2] w fun e w' => e = .returned (.tuple #[.int .i32 r1, .bool r2]) ∧ Below w.heap.size w w' := by
  unfold alphabet_Partner.f at h
  by_cases h1 : okA l = true
  · rw [if_pos h1] at h
    by_cases h2 : (Lit.int .i32 a1).wf = true
    · rw [if_pos h2] at h
      have HR := Aside0.mk hr0
      have HG := Aside0.mk (okA_at h1)
      have HW := Aside0.mk h2
      clear h1 h2
      cases hf : firstIn l l.length a1 with
      | none =>
        rw [hf] at h
        have h := Option.some.inj h
        injection h with h1 h2
        subst h1 h2
        have HF := Aside0.mk hf
        clear hf hr0
        go_enter Tryd.func32, Tryd.ntmps32
        go_wp2_with (first | (go_at_call 40; refine (alphabet_indices.calls A0 c0 l _ HR.out hc0 HG.out.1 HG.out.2).mono ?_; rintro e w1 ⟨b, n, rfl, hb, ht, hbel⟩; have hlk := ht.look HW.out; rw [HF.out] at hlk; have HB1 := Aside0.mk hbel; clear hb ht hbel))
        refine bodyPost_ret (results_tmp2 rfl _ _ _) rfl ?_
        exact ⟨rfl, HB1.out⟩
      | some i =>
        rw [hf] at h
        have H' : Aside0 (alphabet_Partner.l0 k l (Go.bits .xor .u32 (rd_T42 l i).f1 a2) 0 = some (r1, r2)) := ⟨h⟩
        have HF := Aside0.mk hf
        obtain ⟨i0, i1⟩ := firstIn_range (Nat.le_refl _) hf
        obtain ⟨ad, rfl, -, -⟩ := at_T42 hr0 i i0 i1
        have p1 : (0 ≤ i) = True := eq_true i0
        have q2 : (i < (l.length : Int)) = True := eq_true i1
        have I0 := Aside0.mk i0
        have I1 := Aside0.mk i1
        obtain ⟨WT, hWT⟩ : ∃ WT, Go.bits .xor .u32 (rd_T42 l i).f1 a2 = WT := ⟨_, rfl⟩
        rw [hWT] at H'
        clear hf h hr0 i0 i1
        go_enter Tryd.func32, Tryd.ntmps32
        go_wp2_with (first | (go_at_call 40; refine (alphabet_indices.calls (some ad) c0 l _ HR.out hc0 HG.out.1 HG.out.2).mono ?_; rintro e w1 ⟨b, n, rfl, hb, ht, hbel⟩; have hlk := ht.look HW.out; rw [HF.out] at hlk; have HB1 := Aside0.mk hbel; obtain ⟨ad2, ead2, hx0, hx1⟩ := at_T42 (Kd.C_below HR.out hbel) i I0.out I1.out; obtain rfl : ad = ad2 := (by injection ead2); clear hb ht hbel))
        clear hx0 hx1 hlk p1 q2
        go_loopg [31] k (fun kq v31 w' => ∃ (j : Int), v31 = .int .i64 j ∧ Aside0 (0 ≤ j ∧ j ≤ l.length) ∧ Aside0 (alphabet_Partner.l0 kq l WT j = some (r1, r2)) ∧ Aside0 (kq ≤ k) ∧ Aside0 (Below w.heap.size w w'))
        case atStart => exact ⟨0, (by first | rfl | (simp; done)), ⟨by omega, by omega⟩, H', ⟨Nat.le_refl _⟩, HB1⟩
        case round =>
          clear H' HB1
          obtain ⟨j, rfl, HI, HA, HK, HB⟩ := hrel
          cases gk with
          | zero => exact absurd HA.out (by simp [alphabet_Partner.l0])
          | succ k1 =>
            have H := HA.out
            clear HA
            simp only [alphabet_Partner.l0] at H
            by_cases c1 : j < (l.length : Int)
            · rw [if_pos c1] at H
              obtain ⟨ad2, ead2, hx0, hx1⟩ := at_T42 (Kd.C_below HR.out HB.out) j HI.out.1 c1
              obtain rfl : ad = ad2 := (by injection ead2)
              have p1 : (0 ≤ j) = True := eq_true HI.out.1
              have q2 : (j < (l.length : Int)) = True := eq_true c1
              have q2b : decide (j < (l.length : Int)) = true := decide_eq_true c1
              have C1 := Aside0.mk c1
              have hwi : wrap64 (j + 1) = j + 1 := by have := HG.out.2; have := HI.out; unfold wrap64; omega
              by_cases c2 : (rd_T42 l j).f1 = WT
              · rw [if_pos c2] at H
                have h := Option.some.inj H
                injection h with h1 h2
                subst h1 h2
                have c2b : ((rd_T42 l j).f1 == WT) = true := beq_iff_eq.mpr c2
                clear H c1 c2
                go_wp2
                refine bodyPost_ret (results_tmp2 rfl _ _ _) rfl ?_
                exact ⟨rfl, below_alloc HB.out _⟩
              · rw [if_neg c2] at H
                have c2b : ((rd_T42 l j).f1 == WT) = false := beq_eq_false_iff_ne.mpr c2
                have H' := Aside0.mk H
                clear H c1 c2
                go_wp2
                go_roundg k1
                case measure => have := HK.out; omega
                case rel => exact ⟨j + 1, by first | rfl | rw [hwi], ⟨by have := HI.out; omega, by have := C1.out; omega⟩, H', ⟨by have := HK.out; omega⟩, ⟨below_alloc HB.out _⟩⟩
            · rw [if_neg c1] at H
              have h := Option.some.inj H
              injection h with h1 h2
              subst h1 h2
              have q2b : decide (j < (l.length : Int)) = false := decide_eq_false c1
              clear H c1
              go_wp2
              refine bodyPost_ret (results_tmp2 rfl _ _ _) rfl ?_
              exact ⟨rfl, HB.out⟩
    · rw [if_neg h2] at h
      exact absurd h (by simp)
  · rw [if_neg h1] at h
    exact absurd h (by simp)

end Go.Proofs.YtpgeimihmkampaaDoor.C
