-- WRITTEN BY mkprint.py, a program of this session, over the kit's print of the given program. Not trusted: Lean checks it.
import Derived.Test.YtpgeimihmkampaaDoorCx0
import Derived.Test.YtpgeimihmkampaaDoorCx1
import Derived.Test.YtpgeimihmkampaaDoorCx2
import Derived.Test.YtpgeimihmkampaaDoorCx3
namespace Go.Proofs.YtpgeimihmkampaaDoor.C
open Go.RowKit Go.Proofs.YtpgeimihmkampaaDoorW.PrintWords Go.Proofs.YtpgeimihmkampaaDoorW.PrintLast Go.Proofs.YtpgeimihmkampaaDoorW.PrintMore
attribute [local go_sem] max2_int min2_int max_two min_two max_three min_three max_four min_four   -- for this text's walks alone
set_option linter.unusedVariables false
set_option linter.unusedSimpArgs false

/-! ### alphabet_Valid: function 18 -/
set_option maxHeartbeats 8000000 in
set_option maxRecDepth 100000 in
theorem alphabet_Valid.calls (k : Nat) (A0 : Option Addr) (c0 : Nat) (l : List S42) (r : Bool) (w : World) (hr0 : Kd.C k42 w A0 l.length l) (hc0 : l.length ≤ c0) (h : alphabet_Valid.f k l = some r) :
    Calls Tryd.prog 18 #[.slice A0 l.length c0] w fun e w' => e = .returned (.bool r) ∧ Below w.heap.size w w' := by
  unfold alphabet_Valid.f at h
  have HR := Aside0.mk hr0
  clear hr0
  by_cases h1 : (l.length : Int) < 1
  · rw [if_pos h1] at h
    obtain rfl := Option.some.inj h
    have b1 : decide ((l.length : Int) < 1) = true := decide_eq_true h1
    clear h1 h
    go_enter Tryd.func18, Tryd.ntmps18
    go_wp2
    go_ret
    exact ⟨rfl, Below.refl _ _⟩
  · rw [if_neg h1] at h
    have b1 : decide ((l.length : Int) < 1) = false := decide_eq_false h1
    by_cases h2 : (l.length : Int) > 64
    · rw [if_pos h2] at h
      obtain rfl := Option.some.inj h
      have b2 : decide (64 < (l.length : Int)) = true := decide_eq_true h2
      clear h1 h2 h
      go_enter Tryd.func18, Tryd.ntmps18
      go_wp2
      go_ret
      exact ⟨rfl, Below.refl _ _⟩
    · rw [if_neg h2] at h
      have b2 : decide (64 < (l.length : Int)) = false := decide_eq_false h2
      have H' := Aside0.mk h
      have HL := Aside0.mk h2
      clear h1 h2 h
      go_enter Tryd.func18, Tryd.ntmps18
      go_wp2
      go_loopg [15] k (fun kq v15 w' => ∃ (i : Int), v15 = .int .i64 i ∧ Aside0 (0 ≤ i ∧ i ≤ l.length) ∧ Aside0 (alphabet_Valid.l0 kq l i = some r) ∧ Aside0 (kq ≤ k) ∧ Aside0 (Below w.heap.size w w'))
      case atStart => exact ⟨0, (by first | rfl | (simp; done)), ⟨by omega, by omega⟩, H', ⟨Nat.le_refl _⟩, ⟨Below.refl _ _⟩⟩
      case round =>
        clear H'
        obtain ⟨i, rfl, HI, HA, HK, HB⟩ := hrel
        cases gk with
        | zero => exact absurd HA.out (by simp [alphabet_Valid.l0])
        | succ k1 =>
          have H := HA.out
          clear HA
          simp only [alphabet_Valid.l0] at H
          by_cases c1 : i < (l.length : Int)
          · rw [if_pos c1] at H
            have HRr := Aside0.mk (Kd.C_below HR.out HB.out)
            obtain ⟨ad2, ead2, hx0, hx1⟩ := at_T42 HRr.out i HI.out.1 c1
            subst ead2
            have p1 : (0 ≤ i) = True := eq_true HI.out.1
            have q2 : (i < (l.length : Int)) = True := eq_true c1
            have q2b : decide (i < (l.length : Int)) = true := decide_eq_true c1
            have C1 := Aside0.mk c1
            have hwi : wrap64 (i + 1) = i + 1 := by have := HL.out; have := HI.out; unfold wrap64; omega
            by_cases c2 : (rd_T42 l i).f0 ≤ 32
            · rw [if_pos c2] at H
              obtain rfl := Option.some.inj H
              have c2b : decide ((rd_T42 l i).f0 ≤ 32) = true := decide_eq_true c2
              clear H c1 c2
              go_wp2
              go_ret
              exact ⟨rfl, below_alloc HB.out _⟩
            · rw [if_neg c2] at H
              have c2b : decide ((rd_T42 l i).f0 ≤ 32) = false := decide_eq_false c2
              obtain ⟨t, A, H⟩ := Option.bind_eq_some_iff.mp H
              have AV := Aside0.mk A
              clear A c2 c1
              cases t with
              | true =>
                have H' := Aside0.mk (show alphabet_Valid.l0 k1 l (i + 1) = some r by simpa using H)
                clear H
                go_wp2_with (first | (go_at_call 39; refine (utf8_ValidRune.calls k1 (rd_T42 l i).f0 true _ AV.out).mono ?_; rintro e w1 ⟨rfl, hd⟩; have HB1 := Aside0.mk (below_step (below_alloc HB.out _) hd.below); clear HB hd))
                go_roundg k1
                case measure => have := HK.out; omega
                case rel => exact ⟨i + 1, by rw [hwi], ⟨by have := HI.out; omega, by have := C1.out; omega⟩, H', ⟨by have := HK.out; omega⟩, HB1⟩
              | false =>
                obtain rfl : false = r := by simpa using H
                clear H
                go_wp2_with (first | (go_at_call 39; refine (utf8_ValidRune.calls k1 (rd_T42 l i).f0 false _ AV.out).mono ?_; rintro e w1 ⟨rfl, hd⟩; have HB1 := Aside0.mk (below_step (below_alloc HB.out _) hd.below); clear HB hd))
                go_ret
                exact ⟨rfl, HB1.out⟩
          · rw [if_neg c1] at H
            have q2b : decide (i < (l.length : Int)) = false := decide_eq_false c1
            by_cases c3 : good l = true
            · rw [if_pos c3] at H
              obtain rfl := Option.some.inj H
              have C3 := Aside0.mk c3
              clear H c1 c3
              go_wp2_with (first | (go_at_call 40; refine (alphabet_indices.calls A0 c0 l _ (Kd.C_below HR.out HB.out) hc0 C3.out (by have := HL.out; omega)).mono ?_; rintro e w1 ⟨b, n, rfl, hb, ht, hbel⟩; have hlen := ht.length 3; have HB1 := Aside0.mk (below_step HB.out hbel); clear HB hb ht hbel))
              go_ret
              exact ⟨by first | rfl | simp, HB1.out⟩
            · rw [if_neg c3] at H
              exact absurd H (by simp)

end Go.Proofs.YtpgeimihmkampaaDoor.C
