-- WRITTEN BY mkprint.py, a program of this session, over the kit's print of the given program. Not trusted: Lean checks it.
import Derived.Test.YtfpegmnjplagfaaCx0
import Derived.Test.YtfpegmnjplagfaaCx2
import Derived.Test.YtfpegmnjplagfaaCx3
import Derived.Test.YtfpegmnjplagfaaCx4
import Derived.Test.YtfpegmnjplagfaaCx10
import Derived.Test.YtfpegmnjplagfaaCx11
import Derived.Test.YtfpegmnjplagfaaCx12
namespace Go.Proofs.Ytfpegmnjplagfaa.C
open Go.RowKit Go.Proofs.YtfpegmnjplagfaaW.PrintWords Go.Proofs.YtfpegmnjplagfaaW.PrintLast Go.Proofs.YtfpegmnjplagfaaW.PrintMore
attribute [local go_sem] max2_int min2_int max_two min_two max_three min_three max_four min_four   -- for this text's walks alone
set_option linter.unusedVariables false
set_option linter.unusedSimpArgs false

/-! ### pentaglotlaw18_LunisolarLeaps: function 3 -/
set_option maxHeartbeats 8000000 in
set_option maxRecDepth 100000 in
theorem pentaglotlaw18_LunisolarLeaps.calls (k : Nat) (a0 : Int) (r : Bool) (w : World) (h : pentaglotlaw18_LunisolarLeaps.f k a0 = some r) :
    Calls Try.prog 3 #[.int .i64 a0] w fun e w' => e = .returned (.bool r) ∧ Below w.heap.size w w' := by
  have HB := Aside0.mk (Below.refl w.heap.size w)
  have H : ((pentaglotlaw18_awake.f k).bind fun t137 => (if t137 = true then ((lunisolar_Leap.f a0).bind fun t138 => ((pentaglotref18_Leap.f a0).bind fun t139 => (if (t138 != t139) = true then (pentaglotlaw18_LunisolarLeaps.j0 k a0 true) else ((lunisolar_YearDays.f a0).bind fun t140 => ((pentaglotref18_YearDays.f a0).bind fun t141 => (pentaglotlaw18_LunisolarLeaps.j0 k a0 (t140 != t141))))))) else (pentaglotlaw18_LunisolarLeaps.j0 k a0 true))) = some r := h
  clear h
  have HC2 := Aside0.mk H
  clear H
  go_enter Try.func3, Try.ntmps3
  go_upto_region 1 with (fail)
  go_cut [21] (fun v21 wc => ∃ (kq : Nat) (x21_1 : Bool), v21 = .bool x21_1 ∧ Aside0 (pentaglotlaw18_LunisolarLeaps.j0 kq a0 x21_1 = some r) ∧ Aside0 (kq ≤ k) ∧ Aside0 (Below w.heap.size w wc))
  case first =>
    have H := HC2.out
    clear HC2
    replace H := Option.bind_eq_some_iff.mp H
    obtain ⟨t137, A30, H⟩ := H
    replace H : (if t137 = true then ((lunisolar_Leap.f a0).bind fun t138 => ((pentaglotref18_Leap.f a0).bind fun t139 => (if (t138 != t139) = true then (pentaglotlaw18_LunisolarLeaps.j0 k a0 true) else ((lunisolar_YearDays.f a0).bind fun t140 => ((pentaglotref18_YearDays.f a0).bind fun t141 => (pentaglotlaw18_LunisolarLeaps.j0 k a0 (t140 != t141))))))) else (pentaglotlaw18_LunisolarLeaps.j0 k a0 true)) = some r := H
    have A3 := Aside0.mk A30
    clear A30
    by_cases c4 : t137 = true
    · subst c4
      have H1 : ((lunisolar_Leap.f a0).bind fun t138 => ((pentaglotref18_Leap.f a0).bind fun t139 => (if (t138 != t139) = true then (pentaglotlaw18_LunisolarLeaps.j0 k a0 true) else ((lunisolar_YearDays.f a0).bind fun t140 => ((pentaglotref18_YearDays.f a0).bind fun t141 => (pentaglotlaw18_LunisolarLeaps.j0 k a0 (t140 != t141))))))) = some r := by rw [if_pos rfl] at H; exact H
      clear H
      have H := H1
      clear H1
      replace H := Option.bind_eq_some_iff.mp H
      obtain ⟨t138, A50, H⟩ := H
      replace H : ((pentaglotref18_Leap.f a0).bind fun t139 => (if (t138 != t139) = true then (pentaglotlaw18_LunisolarLeaps.j0 k a0 true) else ((lunisolar_YearDays.f a0).bind fun t140 => ((pentaglotref18_YearDays.f a0).bind fun t141 => (pentaglotlaw18_LunisolarLeaps.j0 k a0 (t140 != t141)))))) = some r := H
      have A5 := Aside0.mk A50
      clear A50
      replace H := Option.bind_eq_some_iff.mp H
      obtain ⟨t139, A60, H⟩ := H
      replace H : (if (t138 != t139) = true then (pentaglotlaw18_LunisolarLeaps.j0 k a0 true) else ((lunisolar_YearDays.f a0).bind fun t140 => ((pentaglotref18_YearDays.f a0).bind fun t141 => (pentaglotlaw18_LunisolarLeaps.j0 k a0 (t140 != t141))))) = some r := H
      have A6 := Aside0.mk A60
      clear A60
      by_cases c7 : (t138 != t139) = true
      · rw [if_pos c7] at H
        have c7b0 : (t138 != t139) = true := c7
        (try (have c7b1 : decide (t138 = t139) = false := by simpa using c7))
        (try (have c7b2 : (t138 == t139) = false := by simpa using c7))
        (try (have c7b3 : ¬ (t138 = t139) := by simpa using c7))
        clear c7
        (first | rw [c7b0] | (simp only [i64_w, i32_w]; rw [c7b0]) | skip)
        have H' := Aside0.mk H
        clear H
        go_wp2_with (first | ((with_reducible refine gate_callee (f := 13) rfl ?_); refine goesL_ (some 6) rfl rfl Try.func13 (by kernel_rfl) rfl #[] rfl (by (try simp only [List.map_toArray, List.map_cons, List.map_nil]); first | done | rfl | (simp only [List.length_drop, List.length_take]; rfl)) ?_; (with_reducible refine (pentaglotlaw18_awake.calls k  true _ A3.out).mono ?_); rintro e w8 ⟨rfl, hb⟩; refine ⟨_, rfl, ?_⟩; have n0_ := Aside0.mk (below_step (by repeat (first | (with_reducible first | exact HB.out | apply below_alloc | apply pw_below_drewN | apply below_drew1) | exact HB.out)) hb); clear HB; have HB := n0_; clear n0_; (try clear hb); (try clear hb2); (try clear hk); (try clear hi)) | (go_at_call 14; (with_reducible refine (lunisolar_Leap.calls a0 t138 _ A5.out).mono ?_); rintro e w' ⟨rfl, ⟨nd, rfl⟩⟩) | (go_at_call 15; (with_reducible refine (pentaglotref18_Leap.calls a0 t139 _ A6.out).mono ?_); rintro e w' ⟨rfl, ⟨nd, rfl⟩⟩))
        go_meet
        case rel => exact ⟨_, (true), (by first | rfl | (simp; done) | (simp [*]; done)), H', ⟨by first | omega | exact Nat.le_refl _⟩, ⟨by repeat (first | (with_reducible first | exact HB.out | apply below_alloc | apply pw_below_drewN | apply below_drew1) | exact HB.out)⟩⟩
      · rw [if_neg c7] at H
        have c7b0 : (t138 != t139) = false := by simpa using c7
        (try (have c7b1 : decide (t138 = t139) = true := by simpa using c7))
        (try (have c7b2 : (t138 == t139) = true := by simpa using c7))
        clear c7
        (first | rw [c7b0] | (simp only [i64_w, i32_w]; rw [c7b0]) | skip)
        replace H := Option.bind_eq_some_iff.mp H
        obtain ⟨t140, A90, H⟩ := H
        replace H : ((pentaglotref18_YearDays.f a0).bind fun t141 => (pentaglotlaw18_LunisolarLeaps.j0 k a0 (t140 != t141))) = some r := H
        have A9 := Aside0.mk A90
        clear A90
        replace H := Option.bind_eq_some_iff.mp H
        obtain ⟨t141, A100, H⟩ := H
        replace H : (pentaglotlaw18_LunisolarLeaps.j0 k a0 (t140 != t141)) = some r := H
        have A10 := Aside0.mk A100
        clear A100
        have H' := Aside0.mk H
        clear H
        go_wp2_with (first | ((with_reducible refine gate_callee (f := 13) rfl ?_); refine goesL_ (some 6) rfl rfl Try.func13 (by kernel_rfl) rfl #[] rfl (by (try simp only [List.map_toArray, List.map_cons, List.map_nil]); first | done | rfl | (simp only [List.length_drop, List.length_take]; rfl)) ?_; (with_reducible refine (pentaglotlaw18_awake.calls k  true _ A3.out).mono ?_); rintro e w11 ⟨rfl, hb⟩; refine ⟨_, rfl, ?_⟩; have n0_ := Aside0.mk (below_step (by repeat (first | (with_reducible first | exact HB.out | apply below_alloc | apply pw_below_drewN | apply below_drew1) | exact HB.out)) hb); clear HB; have HB := n0_; clear n0_; (try clear hb); (try clear hb2); (try clear hk); (try clear hi)) | (go_at_call 14; (with_reducible refine (lunisolar_Leap.calls a0 t138 _ A5.out).mono ?_); rintro e w' ⟨rfl, ⟨nd, rfl⟩⟩) | (go_at_call 15; (with_reducible refine (pentaglotref18_Leap.calls a0 t139 _ A6.out).mono ?_); rintro e w' ⟨rfl, ⟨nd, rfl⟩⟩) | (go_at_call 16; (with_reducible refine (lunisolar_YearDays.calls a0 t140 _ A9.out).mono ?_); rintro e w' ⟨rfl, ⟨nd, rfl⟩⟩) | (go_at_call 17; (with_reducible refine (pentaglotref18_YearDays.calls a0 t141 _ A10.out).mono ?_); rintro e w' ⟨rfl, ⟨nd, rfl⟩⟩))
        go_meet
        case rel => exact ⟨_, ((t140 != t141)), (by first | rfl | (simp; done) | (simp [*]; done)), H', ⟨by first | omega | exact Nat.le_refl _⟩, ⟨by repeat (first | (with_reducible first | exact HB.out | apply below_alloc | apply pw_below_drewN | apply below_drew1) | exact HB.out)⟩⟩
    · replace c4 := Bool.eq_false_iff.mpr c4
      subst c4
      have H1 : (pentaglotlaw18_LunisolarLeaps.j0 k a0 true) = some r := by rw [if_neg (show ¬ (false = true) by decide)] at H; exact H
      clear H
      have H := H1
      clear H1
      have H' := Aside0.mk H
      clear H
      go_wp2_with (first | ((with_reducible refine gate_callee (f := 13) rfl ?_); refine goesL_ (some 6) rfl rfl Try.func13 (by kernel_rfl) rfl #[] rfl (by (try simp only [List.map_toArray, List.map_cons, List.map_nil]); first | done | rfl | (simp only [List.length_drop, List.length_take]; rfl)) ?_; (with_reducible refine (pentaglotlaw18_awake.calls k  false _ A3.out).mono ?_); rintro e w12 ⟨rfl, hb⟩; refine ⟨_, rfl, ?_⟩; have n0_ := Aside0.mk (below_step (by repeat (first | (with_reducible first | exact HB.out | apply below_alloc | apply pw_below_drewN | apply below_drew1) | exact HB.out)) hb); clear HB; have HB := n0_; clear n0_; (try clear hb); (try clear hb2); (try clear hk); (try clear hi)))
      go_meet
      case rel => exact ⟨_, (true), (by first | rfl | (simp; done) | (simp [*]; done)), H', ⟨by first | omega | exact Nat.le_refl _⟩, ⟨by repeat (first | (with_reducible first | exact HB.out | apply below_alloc | apply pw_below_drewN | apply below_drew1) | exact HB.out)⟩⟩
  case rest =>
    clear HC2
    try clear c1
    try clear p2
    try clear c3
    try clear c4
    try clear c7
    try clear c7b0
    try clear c7b1
    try clear c7b2
    obtain ⟨kq, x21_1, rfl, HA, HJ1, HB⟩ := hcut
    cases kq with
    | zero => exact absurd HA.out (by simp [pentaglotlaw18_LunisolarLeaps.j0])
    | succ kj1 =>
      have H := HA.out
      clear HA
      simp only [pentaglotlaw18_LunisolarLeaps.j0] at H
      by_cases c13 : x21_1 = true
      · subst c13
        have H1 : (some false) = some r := by rw [if_pos rfl] at H; exact H
        clear H
        have H := H1
        clear H1
        obtain rfl := Option.some.inj H
        go_wp2
        go_ret
        exact ⟨by first | rfl | (simp [errW_none, errW_some] <;> rfl) | (simp [*, errW_none, errW_some] <;> rfl), by repeat (first | (with_reducible first | exact HB.out | apply below_alloc | apply pw_below_drewN | apply below_drew1) | exact HB.out)⟩
      · replace c13 := Bool.eq_false_iff.mpr c13
        subst c13
        have H1 : (if a0 < 0 then (pentaglotlaw18_LunisolarLeaps.j1 kj1 a0 true) else (pentaglotlaw18_LunisolarLeaps.j1 kj1 a0 (decide (a0 > 1152921504606846976)))) = some r := by rw [if_neg (show ¬ (false = true) by decide)] at H; exact H
        clear H
        have H := H1
        clear H1
        have HC14 := Aside0.mk H
        clear H
        go_upto_region 3 with (fail)
        go_cut [27] (fun v27 wc => ∃ (kq : Nat) (x27_13 : Bool), v27 = .bool x27_13 ∧ Aside0 (pentaglotlaw18_LunisolarLeaps.j1 kq a0 x27_13 = some r) ∧ Aside0 (kq ≤ kj1) ∧ Aside0 (Below w.heap.size w wc))
        case first =>
          have H := HC14.out
          clear HC14
          by_cases c15 : a0 < 0
          · rw [if_pos c15] at H
            have c15b0 : decide (a0 < 0) = true := decide_eq_true c15
            clear c15
            (first | rw [c15b0] | (simp only [i64_w, i32_w]; rw [c15b0]) | skip)
            have H' := Aside0.mk H
            clear H
            go_wp2
            go_meet
            case rel => exact ⟨_, (true), (by first | rfl | (simp; done) | (simp [*]; done)), H', ⟨by have := HJ1.out; first | omega | exact Nat.le_refl _⟩, ⟨by repeat (first | (with_reducible first | exact HB.out | apply below_alloc | apply pw_below_drewN | apply below_drew1) | exact HB.out)⟩⟩
          · rw [if_neg c15] at H
            have c15b0 : decide (a0 < 0) = false := decide_eq_false c15
            clear c15
            (first | rw [c15b0] | (simp only [i64_w, i32_w]; rw [c15b0]) | skip)
            have H' := Aside0.mk H
            clear H
            go_wp2
            go_meet
            case rel => exact ⟨_, (decide (a0 > 1152921504606846976)), (by first | rfl | (simp; done) | (simp [*]; done)), H', ⟨by have := HJ1.out; first | omega | exact Nat.le_refl _⟩, ⟨by repeat (first | (with_reducible first | exact HB.out | apply below_alloc | apply pw_below_drewN | apply below_drew1) | exact HB.out)⟩⟩
        case rest =>
          clear HC14
          try clear c1
          try clear p2
          try clear c3
          try clear c4
          try clear c7
          try clear c7b0
          try clear c7b1
          try clear c7b2
          try clear c13
          try clear c15
          try clear c15b0
          try clear p2
          obtain ⟨kq, x27_13, rfl, HA, HJ13, HB⟩ := hcut
          cases kq with
          | zero => exact absurd HA.out (by simp [pentaglotlaw18_LunisolarLeaps.j1])
          | succ kj13 =>
            have H := HA.out
            clear HA
            simp only [pentaglotlaw18_LunisolarLeaps.j1] at H
            by_cases c16 : x27_13 = true
            · subst c16
              have H1 : (some true) = some r := by rw [if_pos rfl] at H; exact H
              clear H
              have H := H1
              clear H1
              obtain rfl := Option.some.inj H
              go_wp2
              go_ret
              exact ⟨by first | rfl | (simp [errW_none, errW_some] <;> rfl) | (simp [*, errW_none, errW_some] <;> rfl), by repeat (first | (with_reducible first | exact HB.out | apply below_alloc | apply pw_below_drewN | apply below_drew1) | exact HB.out)⟩
            · replace c16 := Bool.eq_false_iff.mpr c16
              subst c16
              have H1 : (pentaglotlaw18_LunisolarLeaps.l0 kj13 a0 0 0 0) = some r := by rw [if_neg (show ¬ (false = true) by decide)] at H; exact H
              clear H
              have H := H1
              clear H1
              have H' := Aside0.mk H
              clear H
              go_wp2
              go_loopg [3, 4, 5] kj13 (fun kq v3 v4 v5 w' => ∃ (x3_3 : Int) (x4_3 : Int) (x5_3 : Int), v3 = .int .i64 x3_3 ∧ v4 = .int .i64 x4_3 ∧ v5 = .int .i64 x5_3 ∧ Aside0 (pentaglotlaw18_LunisolarLeaps.l0 kq a0 x3_3 x4_3 x5_3 = some r) ∧ Aside0 (kq ≤ kj13) ∧ Aside0 (Below w.heap.size w w'))
              case atStart => exact ⟨(0), (0), (0), (by first | rfl | (simp; done) | (simp [*]; done)), (by first | rfl | (simp; done) | (simp [*]; done)), (by first | rfl | (simp; done) | (simp [*]; done)), H', ⟨Nat.le_refl _⟩, ⟨by repeat (first | (with_reducible first | exact HB.out | apply below_alloc | apply pw_below_drewN | apply below_drew1) | exact HB.out)⟩⟩
              case round =>
                clear H'
                try clear c1
                try clear p2
                try clear c3
                try clear c4
                try clear c7
                try clear c7b0
                try clear c7b1
                try clear c7b2
                try clear c13
                try clear c15
                try clear c15b0
                try clear c16
                try clear p2
                obtain ⟨x3_3, x4_3, x5_3, rfl, rfl, rfl, HA, HK3, HB⟩ := hrel
                cases gk with
                | zero => exact absurd HA.out (by simp [pentaglotlaw18_LunisolarLeaps.l0])
                | succ k3 =>
                  have H := HA.out
                  clear HA
                  simp only [pentaglotlaw18_LunisolarLeaps.l0] at H
                  by_cases c17 : x5_3 < 19
                  · rw [if_pos c17] at H
                    have c17b0 : decide (x5_3 < 19) = true := decide_eq_true c17
                    clear c17
                    replace H := Option.bind_eq_some_iff.mp H
                    obtain ⟨t142, A180, H⟩ := H
                    replace H : ((lunisolar_Leap.f (wrap64 (a0 + x5_3))).bind fun t143 => (if t143 = true then (pentaglotlaw18_LunisolarLeaps.l0 k3 a0 (wrap64 (x3_3 + 1)) (wrap64 (x4_3 + t142)) (wrap64 (x5_3 + 1))) else (pentaglotlaw18_LunisolarLeaps.l0 k3 a0 x3_3 (wrap64 (x4_3 + t142)) (wrap64 (x5_3 + 1))))) = some r := H
                    have A18 := Aside0.mk A180
                    clear A180
                    replace H := Option.bind_eq_some_iff.mp H
                    obtain ⟨t143, A190, H⟩ := H
                    replace H : (if t143 = true then (pentaglotlaw18_LunisolarLeaps.l0 k3 a0 (wrap64 (x3_3 + 1)) (wrap64 (x4_3 + t142)) (wrap64 (x5_3 + 1))) else (pentaglotlaw18_LunisolarLeaps.l0 k3 a0 x3_3 (wrap64 (x4_3 + t142)) (wrap64 (x5_3 + 1)))) = some r := H
                    have A19 := Aside0.mk A190
                    clear A190
                    by_cases c20 : t143 = true
                    · subst c20
                      have H1 : (pentaglotlaw18_LunisolarLeaps.l0 k3 a0 (wrap64 (x3_3 + 1)) (wrap64 (x4_3 + t142)) (wrap64 (x5_3 + 1))) = some r := by rw [if_pos rfl] at H; exact H
                      clear H
                      have H := H1
                      clear H1
                      have H' := Aside0.mk H
                      clear H
                      go_wp2_with (first | ((with_reducible refine gate_callee (f := 16) rfl ?_); refine goesL_ (some 36) rfl rfl Try.func16 (by kernel_rfl) rfl #[.int .i64 (wrap64 (a0 + x5_3))] rfl (by (try simp only [List.map_toArray, List.map_cons, List.map_nil]); first | done | rfl | (simp only [List.length_drop, List.length_take]; rfl)) ?_; (with_reducible refine (lunisolar_YearDays.calls (wrap64 (a0 + x5_3)) t142 _ A18.out).mono ?_); rintro e w' ⟨rfl, ⟨nd, rfl⟩⟩; refine ⟨_, rfl, ?_⟩) | ((with_reducible refine gate_callee (f := 14) rfl ?_); refine goesL_ (some 41) rfl rfl Try.func14 (by kernel_rfl) rfl #[.int .i64 (wrap64 (a0 + x5_3))] rfl (by (try simp only [List.map_toArray, List.map_cons, List.map_nil]); first | done | rfl | (simp only [List.length_drop, List.length_take]; rfl)) ?_; (with_reducible refine (lunisolar_Leap.calls (wrap64 (a0 + x5_3)) true _ A19.out).mono ?_); rintro e w' ⟨rfl, ⟨nd, rfl⟩⟩; refine ⟨_, rfl, ?_⟩))
                      go_roundg k3
                      case measure => have := HJ1.out; have := HJ13.out; have := HK3.out; omega
                      case rel => exact ⟨(wrap64 (x3_3 + 1)), (wrap64 (x4_3 + t142)), (wrap64 (x5_3 + 1)), (by first | rfl | (simp; done) | (simp [*]; done)), (by first | rfl | (simp; done) | (simp [*]; done)), (by first | rfl | (simp; done) | (simp [*]; done)), H', ⟨by have := HJ1.out; have := HJ13.out; have := HK3.out; omega⟩, ⟨by repeat (first | (with_reducible first | exact HB.out | apply below_alloc | apply pw_below_drewN | apply below_drew1) | exact HB.out)⟩⟩
                    · replace c20 := Bool.eq_false_iff.mpr c20
                      subst c20
                      have H1 : (pentaglotlaw18_LunisolarLeaps.l0 k3 a0 x3_3 (wrap64 (x4_3 + t142)) (wrap64 (x5_3 + 1))) = some r := by rw [if_neg (show ¬ (false = true) by decide)] at H; exact H
                      clear H
                      have H := H1
                      clear H1
                      have H' := Aside0.mk H
                      clear H
                      go_wp2_with (first | ((with_reducible refine gate_callee (f := 16) rfl ?_); refine goesL_ (some 36) rfl rfl Try.func16 (by kernel_rfl) rfl #[.int .i64 (wrap64 (a0 + x5_3))] rfl (by (try simp only [List.map_toArray, List.map_cons, List.map_nil]); first | done | rfl | (simp only [List.length_drop, List.length_take]; rfl)) ?_; (with_reducible refine (lunisolar_YearDays.calls (wrap64 (a0 + x5_3)) t142 _ A18.out).mono ?_); rintro e w' ⟨rfl, ⟨nd, rfl⟩⟩; refine ⟨_, rfl, ?_⟩) | ((with_reducible refine gate_callee (f := 14) rfl ?_); refine goesL_ (some 41) rfl rfl Try.func14 (by kernel_rfl) rfl #[.int .i64 (wrap64 (a0 + x5_3))] rfl (by (try simp only [List.map_toArray, List.map_cons, List.map_nil]); first | done | rfl | (simp only [List.length_drop, List.length_take]; rfl)) ?_; (with_reducible refine (lunisolar_Leap.calls (wrap64 (a0 + x5_3)) false _ A19.out).mono ?_); rintro e w' ⟨rfl, ⟨nd, rfl⟩⟩; refine ⟨_, rfl, ?_⟩))
                      go_roundg k3
                      case measure => have := HJ1.out; have := HJ13.out; have := HK3.out; omega
                      case rel => exact ⟨(x3_3), (wrap64 (x4_3 + t142)), (wrap64 (x5_3 + 1)), (by first | rfl | (simp; done) | (simp [*]; done)), (by first | rfl | (simp; done) | (simp [*]; done)), (by first | rfl | (simp; done) | (simp [*]; done)), H', ⟨by have := HJ1.out; have := HJ13.out; have := HK3.out; omega⟩, ⟨by repeat (first | (with_reducible first | exact HB.out | apply below_alloc | apply pw_below_drewN | apply below_drew1) | exact HB.out)⟩⟩
                  · rw [if_neg c17] at H
                    have c17b0 : decide (x5_3 < 19) = false := decide_eq_false c17
                    clear c17
                    by_cases c21 : x3_3 = 7
                    · rw [if_pos c21] at H
                      have c21b0 : (x3_3 == 7) = true := beq_iff_eq.mpr c21
                      have c21b1 : (x3_3 != 7) = false := bne_eq_false_iff_eq.mpr c21
                      clear c21
                      obtain rfl := Option.some.inj H
                      go_wp2
                      go_ret
                      exact ⟨by first | rfl | (simp [errW_none, errW_some] <;> rfl) | (simp [*, errW_none, errW_some] <;> rfl), by repeat (first | (with_reducible first | exact HB.out | apply below_alloc | apply pw_below_drewN | apply below_drew1) | exact HB.out)⟩
                    · rw [if_neg c21] at H
                      have c21b0 : (x3_3 == 7) = false := beq_eq_false_iff_ne.mpr c21
                      have c21b1 : (x3_3 != 7) = true := bne_iff_ne.mpr c21
                      obtain rfl := Option.some.inj H
                      go_wp2
                      go_ret
                      exact ⟨by first | rfl | (simp [errW_none, errW_some] <;> rfl) | (simp [*, errW_none, errW_some] <;> rfl), by repeat (first | (with_reducible first | exact HB.out | apply below_alloc | apply pw_below_drewN | apply below_drew1) | exact HB.out)⟩

/-- THE ONE PURE STATEMENT of pentaglotlaw18_LunisolarLeaps: yours. -/
def pentaglotlaw18_LunisolarLeaps.Pure : Prop := ∀ (a0 : Int), (Lit.int .i64 a0).wf = true → ∃ k, pentaglotlaw18_LunisolarLeaps.f k a0 = some true
theorem pentaglotlaw18_LunisolarLeaps.walk (P : pentaglotlaw18_LunisolarLeaps.Pure) (a0 : Int) (w : World) (w0 : (Lit.int .i64 a0).wf = true) :
    Calls Try.prog 3 #[.int .i64 a0] w fun e w' => e = .returned (.bool true) ∧ Below w.heap.size w w' := by
  obtain ⟨k, h⟩ := P a0 w0
  refine (pentaglotlaw18_LunisolarLeaps.calls k a0 true w h).mono ?_
  rintro e w' ⟨rfl, hd⟩
  exact ⟨rfl, hd⟩

end Go.Proofs.Ytfpegmnjplagfaa.C
