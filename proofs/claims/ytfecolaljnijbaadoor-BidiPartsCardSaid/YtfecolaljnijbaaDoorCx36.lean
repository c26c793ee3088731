-- WRITTEN BY mkprint.py, a program of this session, over the kit's print of the given program. Not trusted: Lean checks it.
import Derived.Test.YtfecolaljnijbaaDoorCx0
import Derived.Test.YtfecolaljnijbaaDoorCx2
import Derived.Test.YtfecolaljnijbaaDoorCx3
import Derived.Test.YtfecolaljnijbaaDoorCx7
import Derived.Test.YtfecolaljnijbaaDoorCx17
import Derived.Test.YtfecolaljnijbaaDoorCx20
namespace Go.Proofs.YtfecolaljnijbaaDoor.C
open Go.RowKit Go.Proofs.YtfecolaljnijbaaDoorW.PrintWords Go.Proofs.YtfecolaljnijbaaDoorW.PrintLast Go.Proofs.YtfecolaljnijbaaDoorW.PrintMore
attribute [local go_sem] max2_int min2_int max_two min_two max_three min_three max_four min_four   -- for this text's walks alone
set_option linter.unusedVariables false
set_option linter.unusedSimpArgs false

/-! ### pentaglotlaw43_BidiParts: function 10 -/
set_option maxHeartbeats 8000000 in
set_option maxRecDepth 100000 in
theorem pentaglotlaw43_BidiParts.calls (k : Nat) (a0 : ByteArray) (a1 : ByteArray) (r : Bool) (w : World) (hG : Glob w) (h : pentaglotlaw43_BidiParts.f k a0 a1 = some r) :
    Calls Tryd.prog 10 #[.string a0, .string a1] w fun e w' => e = .returned (.bool r) ∧ Below w.heap.size w w' := by
  have HG := Aside0.mk hG
  clear hG
  have HB := Aside0.mk (Below.refl w.heap.size w)
  have H : ((pentaglotlaw43_short.f a0).bind fun t356 => (if t356 = true then ((pentaglotlaw43_short.f a1).bind fun t357 => (if t357 = true then ((utf8_ValidString.f a0).bind fun t358 => (if t358 = true then ((utf8_ValidString.f a1).bind fun t359 => (pentaglotlaw43_BidiParts.j0 k a0 a1 (!t359))) else (pentaglotlaw43_BidiParts.j0 k a0 a1 true))) else (pentaglotlaw43_BidiParts.j0 k a0 a1 true))) else (pentaglotlaw43_BidiParts.j0 k a0 a1 true))) = some r := h
  clear h
  have HC3 := Aside0.mk H
  clear H
  go_enter Tryd.func10, Tryd.ntmps10
  go_upto_region 1 with (fail)
  go_cut [22] (fun v22 wc => ∃ (kq : Nat) (x22_2 : Bool), v22 = .bool x22_2 ∧ Aside0 (pentaglotlaw43_BidiParts.j0 kq a0 a1 x22_2 = some r) ∧ Aside0 (kq ≤ k) ∧ Aside0 (Below w.heap.size w wc))
  case first =>
    have H := HC3.out
    clear HC3
    replace H := Option.bind_eq_some_iff.mp H
    obtain ⟨t356, A40, H⟩ := H
    replace H : (if t356 = true then ((pentaglotlaw43_short.f a1).bind fun t357 => (if t357 = true then ((utf8_ValidString.f a0).bind fun t358 => (if t358 = true then ((utf8_ValidString.f a1).bind fun t359 => (pentaglotlaw43_BidiParts.j0 k a0 a1 (!t359))) else (pentaglotlaw43_BidiParts.j0 k a0 a1 true))) else (pentaglotlaw43_BidiParts.j0 k a0 a1 true))) else (pentaglotlaw43_BidiParts.j0 k a0 a1 true)) = some r := H
    have A4 := Aside0.mk A40
    clear A40
    by_cases c5 : t356 = true
    · subst c5
      have H1 : ((pentaglotlaw43_short.f a1).bind fun t357 => (if t357 = true then ((utf8_ValidString.f a0).bind fun t358 => (if t358 = true then ((utf8_ValidString.f a1).bind fun t359 => (pentaglotlaw43_BidiParts.j0 k a0 a1 (!t359))) else (pentaglotlaw43_BidiParts.j0 k a0 a1 true))) else (pentaglotlaw43_BidiParts.j0 k a0 a1 true))) = some r := by rw [if_pos rfl] at H; exact H
      clear H
      have H := H1
      clear H1
      replace H := Option.bind_eq_some_iff.mp H
      obtain ⟨t357, A60, H⟩ := H
      replace H : (if t357 = true then ((utf8_ValidString.f a0).bind fun t358 => (if t358 = true then ((utf8_ValidString.f a1).bind fun t359 => (pentaglotlaw43_BidiParts.j0 k a0 a1 (!t359))) else (pentaglotlaw43_BidiParts.j0 k a0 a1 true))) else (pentaglotlaw43_BidiParts.j0 k a0 a1 true)) = some r := H
      have A6 := Aside0.mk A60
      clear A60
      by_cases c7 : t357 = true
      · subst c7
        have H1 : ((utf8_ValidString.f a0).bind fun t358 => (if t358 = true then ((utf8_ValidString.f a1).bind fun t359 => (pentaglotlaw43_BidiParts.j0 k a0 a1 (!t359))) else (pentaglotlaw43_BidiParts.j0 k a0 a1 true))) = some r := by rw [if_pos rfl] at H; exact H
        clear H
        have H := H1
        clear H1
        replace H := Option.bind_eq_some_iff.mp H
        obtain ⟨t358, A80, H⟩ := H
        replace H : (if t358 = true then ((utf8_ValidString.f a1).bind fun t359 => (pentaglotlaw43_BidiParts.j0 k a0 a1 (!t359))) else (pentaglotlaw43_BidiParts.j0 k a0 a1 true)) = some r := H
        have A8 := Aside0.mk A80
        clear A80
        by_cases c9 : t358 = true
        · subst c9
          have H1 : ((utf8_ValidString.f a1).bind fun t359 => (pentaglotlaw43_BidiParts.j0 k a0 a1 (!t359))) = some r := by rw [if_pos rfl] at H; exact H
          clear H
          have H := H1
          clear H1
          replace H := Option.bind_eq_some_iff.mp H
          obtain ⟨t359, A100, H⟩ := H
          replace H : (pentaglotlaw43_BidiParts.j0 k a0 a1 (!t359)) = some r := H
          have A10 := Aside0.mk A100
          clear A100
          have H' := Aside0.mk H
          clear H
          go_wp2_with (first | ((with_reducible refine gate_callee (f := 12) rfl ?_); refine goesL_ (some 6) rfl rfl Tryd.func12 (by kernel_rfl) rfl #[.string a0] rfl (by (try simp only [List.map_toArray, List.map_cons, List.map_nil]); first | done | rfl | (simp only [List.length_drop, List.length_take]; rfl)) ?_; (with_reducible refine (pentaglotlaw43_short.calls a0 true _ A4.out).mono ?_); rintro e w' ⟨rfl, ⟨nd, rfl⟩⟩; refine ⟨_, rfl, ?_⟩) | (go_at_call 12; (with_reducible refine (pentaglotlaw43_short.calls a1 true _ A6.out).mono ?_); rintro e w' ⟨rfl, ⟨nd, rfl⟩⟩) | (go_at_call 16; (with_reducible refine (utf8_ValidString.calls a0 true _ (Glob.below HG.out (by repeat (first | (with_reducible first | exact HB.out | apply below_alloc | apply pw_below_drewN | apply below_drew1) | exact HB.out))) A8.out).mono ?_); rintro e w11 ⟨rfl, hb⟩; have n0_ := Aside0.mk (below_step (by repeat (first | (with_reducible first | exact HB.out | apply below_alloc | apply pw_below_drewN | apply below_drew1) | exact HB.out)) hb); clear HB; have HB := n0_; clear n0_; (try clear hb); (try clear hb2); (try clear hk); (try clear hi)) | (go_at_call 16; (with_reducible refine (utf8_ValidString.calls a1 t359 _ (Glob.below HG.out (by repeat (first | (with_reducible first | exact HB.out | apply below_alloc | apply pw_below_drewN | apply below_drew1) | exact HB.out))) A10.out).mono ?_); rintro e w12 ⟨rfl, hb⟩; have n0_ := Aside0.mk (below_step (by repeat (first | (with_reducible first | exact HB.out | apply below_alloc | apply pw_below_drewN | apply below_drew1) | exact HB.out)) hb); clear HB; have HB := n0_; clear n0_; (try clear hb); (try clear hb2); (try clear hk); (try clear hi)))
          go_meet
          case rel => exact ⟨_, (!t359), (by first | rfl | (simp; done) | (simp [*]; done)), H', ⟨by first | omega | exact Nat.le_refl _⟩, ⟨by repeat (first | (with_reducible first | exact HB.out | apply below_alloc | apply pw_below_drewN | apply below_drew1) | exact HB.out)⟩⟩
        · replace c9 := Bool.eq_false_iff.mpr c9
          subst c9
          have H1 : (pentaglotlaw43_BidiParts.j0 k a0 a1 true) = some r := by rw [if_neg (show ¬ (false = true) by decide)] at H; exact H
          clear H
          have H := H1
          clear H1
          have H' := Aside0.mk H
          clear H
          go_wp2_with (first | ((with_reducible refine gate_callee (f := 12) rfl ?_); refine goesL_ (some 6) rfl rfl Tryd.func12 (by kernel_rfl) rfl #[.string a0] rfl (by (try simp only [List.map_toArray, List.map_cons, List.map_nil]); first | done | rfl | (simp only [List.length_drop, List.length_take]; rfl)) ?_; (with_reducible refine (pentaglotlaw43_short.calls a0 true _ A4.out).mono ?_); rintro e w' ⟨rfl, ⟨nd, rfl⟩⟩; refine ⟨_, rfl, ?_⟩) | (go_at_call 12; (with_reducible refine (pentaglotlaw43_short.calls a1 true _ A6.out).mono ?_); rintro e w' ⟨rfl, ⟨nd, rfl⟩⟩) | (go_at_call 16; (with_reducible refine (utf8_ValidString.calls a0 false _ (Glob.below HG.out (by repeat (first | (with_reducible first | exact HB.out | apply below_alloc | apply pw_below_drewN | apply below_drew1) | exact HB.out))) A8.out).mono ?_); rintro e w13 ⟨rfl, hb⟩; have n0_ := Aside0.mk (below_step (by repeat (first | (with_reducible first | exact HB.out | apply below_alloc | apply pw_below_drewN | apply below_drew1) | exact HB.out)) hb); clear HB; have HB := n0_; clear n0_; (try clear hb); (try clear hb2); (try clear hk); (try clear hi)))
          go_meet
          case rel => exact ⟨_, (true), (by first | rfl | (simp; done) | (simp [*]; done)), H', ⟨by first | omega | exact Nat.le_refl _⟩, ⟨by repeat (first | (with_reducible first | exact HB.out | apply below_alloc | apply pw_below_drewN | apply below_drew1) | exact HB.out)⟩⟩
      · replace c7 := Bool.eq_false_iff.mpr c7
        subst c7
        have H1 : (pentaglotlaw43_BidiParts.j0 k a0 a1 true) = some r := by rw [if_neg (show ¬ (false = true) by decide)] at H; exact H
        clear H
        have H := H1
        clear H1
        have H' := Aside0.mk H
        clear H
        go_wp2_with (first | ((with_reducible refine gate_callee (f := 12) rfl ?_); refine goesL_ (some 6) rfl rfl Tryd.func12 (by kernel_rfl) rfl #[.string a0] rfl (by (try simp only [List.map_toArray, List.map_cons, List.map_nil]); first | done | rfl | (simp only [List.length_drop, List.length_take]; rfl)) ?_; (with_reducible refine (pentaglotlaw43_short.calls a0 true _ A4.out).mono ?_); rintro e w' ⟨rfl, ⟨nd, rfl⟩⟩; refine ⟨_, rfl, ?_⟩) | (go_at_call 12; (with_reducible refine (pentaglotlaw43_short.calls a1 false _ A6.out).mono ?_); rintro e w' ⟨rfl, ⟨nd, rfl⟩⟩))
        go_meet
        case rel => exact ⟨_, (true), (by first | rfl | (simp; done) | (simp [*]; done)), H', ⟨by first | omega | exact Nat.le_refl _⟩, ⟨by repeat (first | (with_reducible first | exact HB.out | apply below_alloc | apply pw_below_drewN | apply below_drew1) | exact HB.out)⟩⟩
    · replace c5 := Bool.eq_false_iff.mpr c5
      subst c5
      have H1 : (pentaglotlaw43_BidiParts.j0 k a0 a1 true) = some r := by rw [if_neg (show ¬ (false = true) by decide)] at H; exact H
      clear H
      have H := H1
      clear H1
      have H' := Aside0.mk H
      clear H
      go_wp2_with (first | ((with_reducible refine gate_callee (f := 12) rfl ?_); refine goesL_ (some 6) rfl rfl Tryd.func12 (by kernel_rfl) rfl #[.string a0] rfl (by (try simp only [List.map_toArray, List.map_cons, List.map_nil]); first | done | rfl | (simp only [List.length_drop, List.length_take]; rfl)) ?_; (with_reducible refine (pentaglotlaw43_short.calls a0 false _ A4.out).mono ?_); rintro e w' ⟨rfl, ⟨nd, rfl⟩⟩; refine ⟨_, rfl, ?_⟩))
      go_meet
      case rel => exact ⟨_, (true), (by first | rfl | (simp; done) | (simp [*]; done)), H', ⟨by first | omega | exact Nat.le_refl _⟩, ⟨by repeat (first | (with_reducible first | exact HB.out | apply below_alloc | apply pw_below_drewN | apply below_drew1) | exact HB.out)⟩⟩
  case rest =>
    clear HC3
    try clear c1
    try clear p2
    try clear c5
    try clear c7
    try clear c9
    try clear c10
    try clear c12
    obtain ⟨kq, x22_2, rfl, HA, HJ2, HB⟩ := hcut
    cases kq with
    | zero => exact absurd HA.out (by simp [pentaglotlaw43_BidiParts.j0])
    | succ kj2 =>
      have H := HA.out
      clear HA
      simp only [pentaglotlaw43_BidiParts.j0] at H
      by_cases c14 : x22_2 = true
      · subst c14
        have H1 : ((pentaglotlaw43_awake.f kj2).bind fun t360 => (some t360)) = some r := by rw [if_pos rfl] at H; exact H
        clear H
        have H := H1
        clear H1
        replace H := Option.bind_eq_some_iff.mp H
        obtain ⟨t360, A150, H⟩ := H
        replace H : (some t360) = some r := H
        have A15 := Aside0.mk A150
        clear A150
        obtain rfl := Option.some.inj H
        go_wp2_with (first | ((with_reducible refine gate_callee (f := 15) rfl ?_); refine goesL_ (some 23) rfl rfl Tryd.func15 (by kernel_rfl) rfl #[] rfl (by (try simp only [List.map_toArray, List.map_cons, List.map_nil]); first | done | rfl | (simp only [List.length_drop, List.length_take]; rfl)) ?_; (with_reducible refine (pentaglotlaw43_awake.calls kj2  t360 _ (Glob.below HG.out (by repeat (first | (with_reducible first | exact HB.out | apply below_alloc | apply pw_below_drewN | apply below_drew1) | exact HB.out))) A15.out).mono ?_); rintro e w16 ⟨rfl, hb⟩; refine ⟨_, rfl, ?_⟩; have n0_ := Aside0.mk (below_step (by repeat (first | (with_reducible first | exact HB.out | apply below_alloc | apply pw_below_drewN | apply below_drew1) | exact HB.out)) hb); clear HB; have HB := n0_; clear n0_; (try clear hb); (try clear hb2); (try clear hk); (try clear hi)))
        go_ret
        exact ⟨by first | rfl | (simp [errW_none, errW_some] <;> rfl) | (simp [*, errW_none, errW_some] <;> rfl), by repeat (first | (with_reducible first | exact HB.out | apply below_alloc | apply pw_below_drewN | apply below_drew1) | exact HB.out)⟩
      · replace c14 := Bool.eq_false_iff.mpr c14
        subst c14
        have H1 : ((pentaglotlaw43_awake.f kj2).bind fun t361 => (if t361 = true then (if a0.size + 1 ≤ 9223372036854775807 then (if (a0 ++ (⟨#[120]⟩ : ByteArray)).size + a1.size ≤ 9223372036854775807 then ((bidi_Visual.f kj2 0 ((a0 ++ (⟨#[120]⟩ : ByteArray)) ++ a1)).bind fun t362 => ((bidi_Visual.f kj2 0 a0).bind fun t363 => (if t363.size + 1 ≤ 9223372036854775807 then ((bidi_Visual.f kj2 0 a1).bind fun t364 => (if (t363 ++ (⟨#[120]⟩ : ByteArray)).size + t364.size ≤ 9223372036854775807 then (if t362.toList = ((t363 ++ (⟨#[120]⟩ : ByteArray)) ++ t364).toList then (if a0.size + 2 ≤ 9223372036854775807 then (if (a0 ++ (⟨#[215, 144]⟩ : ByteArray)).size + a1.size ≤ 9223372036854775807 then ((bidi_Visual.f kj2 1 ((a0 ++ (⟨#[215, 144]⟩ : ByteArray)) ++ a1)).bind fun t365 => ((bidi_Visual.f kj2 1 a1).bind fun t366 => (if t366.size + 2 ≤ 9223372036854775807 then ((bidi_Visual.f kj2 1 a0).bind fun t367 => (if (t366 ++ (⟨#[215, 144]⟩ : ByteArray)).size + t367.size ≤ 9223372036854775807 then (some (t365.toList == ((t366 ++ (⟨#[215, 144]⟩ : ByteArray)) ++ t367).toList)) else (none))) else (none)))) else (none)) else (none)) else (some false)) else (none))) else (none)))) else (none)) else (none)) else (some false))) = some r := by rw [if_neg (show ¬ (false = true) by decide)] at H; exact H
        clear H
        have H := H1
        clear H1
        replace H := Option.bind_eq_some_iff.mp H
        obtain ⟨t361, A170, H⟩ := H
        replace H : (if t361 = true then (if a0.size + 1 ≤ 9223372036854775807 then (if (a0 ++ (⟨#[120]⟩ : ByteArray)).size + a1.size ≤ 9223372036854775807 then ((bidi_Visual.f kj2 0 ((a0 ++ (⟨#[120]⟩ : ByteArray)) ++ a1)).bind fun t362 => ((bidi_Visual.f kj2 0 a0).bind fun t363 => (if t363.size + 1 ≤ 9223372036854775807 then ((bidi_Visual.f kj2 0 a1).bind fun t364 => (if (t363 ++ (⟨#[120]⟩ : ByteArray)).size + t364.size ≤ 9223372036854775807 then (if t362.toList = ((t363 ++ (⟨#[120]⟩ : ByteArray)) ++ t364).toList then (if a0.size + 2 ≤ 9223372036854775807 then (if (a0 ++ (⟨#[215, 144]⟩ : ByteArray)).size + a1.size ≤ 9223372036854775807 then ((bidi_Visual.f kj2 1 ((a0 ++ (⟨#[215, 144]⟩ : ByteArray)) ++ a1)).bind fun t365 => ((bidi_Visual.f kj2 1 a1).bind fun t366 => (if t366.size + 2 ≤ 9223372036854775807 then ((bidi_Visual.f kj2 1 a0).bind fun t367 => (if (t366 ++ (⟨#[215, 144]⟩ : ByteArray)).size + t367.size ≤ 9223372036854775807 then (some (t365.toList == ((t366 ++ (⟨#[215, 144]⟩ : ByteArray)) ++ t367).toList)) else (none))) else (none)))) else (none)) else (none)) else (some false)) else (none))) else (none)))) else (none)) else (none)) else (some false)) = some r := H
        have A17 := Aside0.mk A170
        clear A170
        by_cases c18 : t361 = true
        · subst c18
          have H1 : (if a0.size + 1 ≤ 9223372036854775807 then (if (a0 ++ (⟨#[120]⟩ : ByteArray)).size + a1.size ≤ 9223372036854775807 then ((bidi_Visual.f kj2 0 ((a0 ++ (⟨#[120]⟩ : ByteArray)) ++ a1)).bind fun t362 => ((bidi_Visual.f kj2 0 a0).bind fun t363 => (if t363.size + 1 ≤ 9223372036854775807 then ((bidi_Visual.f kj2 0 a1).bind fun t364 => (if (t363 ++ (⟨#[120]⟩ : ByteArray)).size + t364.size ≤ 9223372036854775807 then (if t362.toList = ((t363 ++ (⟨#[120]⟩ : ByteArray)) ++ t364).toList then (if a0.size + 2 ≤ 9223372036854775807 then (if (a0 ++ (⟨#[215, 144]⟩ : ByteArray)).size + a1.size ≤ 9223372036854775807 then ((bidi_Visual.f kj2 1 ((a0 ++ (⟨#[215, 144]⟩ : ByteArray)) ++ a1)).bind fun t365 => ((bidi_Visual.f kj2 1 a1).bind fun t366 => (if t366.size + 2 ≤ 9223372036854775807 then ((bidi_Visual.f kj2 1 a0).bind fun t367 => (if (t366 ++ (⟨#[215, 144]⟩ : ByteArray)).size + t367.size ≤ 9223372036854775807 then (some (t365.toList == ((t366 ++ (⟨#[215, 144]⟩ : ByteArray)) ++ t367).toList)) else (none))) else (none)))) else (none)) else (none)) else (some false)) else (none))) else (none)))) else (none)) else (none)) = some r := by rw [if_pos rfl] at H; exact H
          clear H
          have H := H1
          clear H1
          by_cases c19 : a0.size + 1 ≤ 9223372036854775807
          · rw [if_pos c19] at H
            have c19b0 := eq_true c19
            have c19b1 : decide (a0.size + 1 ≤ 9223372036854775807) = true := decide_eq_true c19
            try have c19b2 : (9223372036854775807 < a0.size + 1) = False := eq_false (Nat.not_lt.2 c19)
            by_cases c20 : (a0 ++ (⟨#[120]⟩ : ByteArray)).size + a1.size ≤ 9223372036854775807
            · rw [if_pos c20] at H
              have c20b0 := eq_true c20
              have c20b1 : decide ((a0 ++ (⟨#[120]⟩ : ByteArray)).size + a1.size ≤ 9223372036854775807) = true := decide_eq_true c20
              try have c20b2 : (9223372036854775807 < (a0 ++ (⟨#[120]⟩ : ByteArray)).size + a1.size) = False := eq_false (Nat.not_lt.2 c20)
              replace H := Option.bind_eq_some_iff.mp H
              obtain ⟨t362, A210, H⟩ := H
              replace H : ((bidi_Visual.f kj2 0 a0).bind fun t363 => (if t363.size + 1 ≤ 9223372036854775807 then ((bidi_Visual.f kj2 0 a1).bind fun t364 => (if (t363 ++ (⟨#[120]⟩ : ByteArray)).size + t364.size ≤ 9223372036854775807 then (if t362.toList = ((t363 ++ (⟨#[120]⟩ : ByteArray)) ++ t364).toList then (if a0.size + 2 ≤ 9223372036854775807 then (if (a0 ++ (⟨#[215, 144]⟩ : ByteArray)).size + a1.size ≤ 9223372036854775807 then ((bidi_Visual.f kj2 1 ((a0 ++ (⟨#[215, 144]⟩ : ByteArray)) ++ a1)).bind fun t365 => ((bidi_Visual.f kj2 1 a1).bind fun t366 => (if t366.size + 2 ≤ 9223372036854775807 then ((bidi_Visual.f kj2 1 a0).bind fun t367 => (if (t366 ++ (⟨#[215, 144]⟩ : ByteArray)).size + t367.size ≤ 9223372036854775807 then (some (t365.toList == ((t366 ++ (⟨#[215, 144]⟩ : ByteArray)) ++ t367).toList)) else (none))) else (none)))) else (none)) else (none)) else (some false)) else (none))) else (none))) = some r := H
              have A21 := Aside0.mk A210
              clear A210
              replace H := Option.bind_eq_some_iff.mp H
              obtain ⟨t363, A220, H⟩ := H
              replace H : (if t363.size + 1 ≤ 9223372036854775807 then ((bidi_Visual.f kj2 0 a1).bind fun t364 => (if (t363 ++ (⟨#[120]⟩ : ByteArray)).size + t364.size ≤ 9223372036854775807 then (if t362.toList = ((t363 ++ (⟨#[120]⟩ : ByteArray)) ++ t364).toList then (if a0.size + 2 ≤ 9223372036854775807 then (if (a0 ++ (⟨#[215, 144]⟩ : ByteArray)).size + a1.size ≤ 9223372036854775807 then ((bidi_Visual.f kj2 1 ((a0 ++ (⟨#[215, 144]⟩ : ByteArray)) ++ a1)).bind fun t365 => ((bidi_Visual.f kj2 1 a1).bind fun t366 => (if t366.size + 2 ≤ 9223372036854775807 then ((bidi_Visual.f kj2 1 a0).bind fun t367 => (if (t366 ++ (⟨#[215, 144]⟩ : ByteArray)).size + t367.size ≤ 9223372036854775807 then (some (t365.toList == ((t366 ++ (⟨#[215, 144]⟩ : ByteArray)) ++ t367).toList)) else (none))) else (none)))) else (none)) else (none)) else (some false)) else (none))) else (none)) = some r := H
              have A22 := Aside0.mk A220
              clear A220
              by_cases c23 : t363.size + 1 ≤ 9223372036854775807
              · rw [if_pos c23] at H
                have c23b0 := eq_true c23
                have c23b1 : decide (t363.size + 1 ≤ 9223372036854775807) = true := decide_eq_true c23
                try have c23b2 : (9223372036854775807 < t363.size + 1) = False := eq_false (Nat.not_lt.2 c23)
                replace H := Option.bind_eq_some_iff.mp H
                obtain ⟨t364, A240, H⟩ := H
                replace H : (if (t363 ++ (⟨#[120]⟩ : ByteArray)).size + t364.size ≤ 9223372036854775807 then (if t362.toList = ((t363 ++ (⟨#[120]⟩ : ByteArray)) ++ t364).toList then (if a0.size + 2 ≤ 9223372036854775807 then (if (a0 ++ (⟨#[215, 144]⟩ : ByteArray)).size + a1.size ≤ 9223372036854775807 then ((bidi_Visual.f kj2 1 ((a0 ++ (⟨#[215, 144]⟩ : ByteArray)) ++ a1)).bind fun t365 => ((bidi_Visual.f kj2 1 a1).bind fun t366 => (if t366.size + 2 ≤ 9223372036854775807 then ((bidi_Visual.f kj2 1 a0).bind fun t367 => (if (t366 ++ (⟨#[215, 144]⟩ : ByteArray)).size + t367.size ≤ 9223372036854775807 then (some (t365.toList == ((t366 ++ (⟨#[215, 144]⟩ : ByteArray)) ++ t367).toList)) else (none))) else (none)))) else (none)) else (none)) else (some false)) else (none)) = some r := H
                have A24 := Aside0.mk A240
                clear A240
                by_cases c25 : (t363 ++ (⟨#[120]⟩ : ByteArray)).size + t364.size ≤ 9223372036854775807
                · rw [if_pos c25] at H
                  have c25b0 := eq_true c25
                  have c25b1 : decide ((t363 ++ (⟨#[120]⟩ : ByteArray)).size + t364.size ≤ 9223372036854775807) = true := decide_eq_true c25
                  try have c25b2 : (9223372036854775807 < (t363 ++ (⟨#[120]⟩ : ByteArray)).size + t364.size) = False := eq_false (Nat.not_lt.2 c25)
                  by_cases c26 : t362.toList = ((t363 ++ (⟨#[120]⟩ : ByteArray)) ++ t364).toList
                  · rw [if_pos c26] at H
                    have c26b0 : (t362.toList == ((t363 ++ (⟨#[120]⟩ : ByteArray)) ++ t364).toList) = true := beq_iff_eq.mpr c26
                    have c26b1 : (t362.toList != ((t363 ++ (⟨#[120]⟩ : ByteArray)) ++ t364).toList) = false := bne_eq_false_iff_eq.mpr c26
                    clear c26
                    by_cases c27 : a0.size + 2 ≤ 9223372036854775807
                    · rw [if_pos c27] at H
                      have c27b0 := eq_true c27
                      have c27b1 : decide (a0.size + 2 ≤ 9223372036854775807) = true := decide_eq_true c27
                      try have c27b2 : (9223372036854775807 < a0.size + 2) = False := eq_false (Nat.not_lt.2 c27)
                      by_cases c28 : (a0 ++ (⟨#[215, 144]⟩ : ByteArray)).size + a1.size ≤ 9223372036854775807
                      · rw [if_pos c28] at H
                        have c28b0 := eq_true c28
                        have c28b1 : decide ((a0 ++ (⟨#[215, 144]⟩ : ByteArray)).size + a1.size ≤ 9223372036854775807) = true := decide_eq_true c28
                        try have c28b2 : (9223372036854775807 < (a0 ++ (⟨#[215, 144]⟩ : ByteArray)).size + a1.size) = False := eq_false (Nat.not_lt.2 c28)
                        replace H := Option.bind_eq_some_iff.mp H
                        obtain ⟨t365, A290, H⟩ := H
                        replace H : ((bidi_Visual.f kj2 1 a1).bind fun t366 => (if t366.size + 2 ≤ 9223372036854775807 then ((bidi_Visual.f kj2 1 a0).bind fun t367 => (if (t366 ++ (⟨#[215, 144]⟩ : ByteArray)).size + t367.size ≤ 9223372036854775807 then (some (t365.toList == ((t366 ++ (⟨#[215, 144]⟩ : ByteArray)) ++ t367).toList)) else (none))) else (none))) = some r := H
                        have A29 := Aside0.mk A290
                        clear A290
                        replace H := Option.bind_eq_some_iff.mp H
                        obtain ⟨t366, A300, H⟩ := H
                        replace H : (if t366.size + 2 ≤ 9223372036854775807 then ((bidi_Visual.f kj2 1 a0).bind fun t367 => (if (t366 ++ (⟨#[215, 144]⟩ : ByteArray)).size + t367.size ≤ 9223372036854775807 then (some (t365.toList == ((t366 ++ (⟨#[215, 144]⟩ : ByteArray)) ++ t367).toList)) else (none))) else (none)) = some r := H
                        have A30 := Aside0.mk A300
                        clear A300
                        by_cases c31 : t366.size + 2 ≤ 9223372036854775807
                        · rw [if_pos c31] at H
                          have c31b0 := eq_true c31
                          have c31b1 : decide (t366.size + 2 ≤ 9223372036854775807) = true := decide_eq_true c31
                          try have c31b2 : (9223372036854775807 < t366.size + 2) = False := eq_false (Nat.not_lt.2 c31)
                          replace H := Option.bind_eq_some_iff.mp H
                          obtain ⟨t367, A320, H⟩ := H
                          replace H : (if (t366 ++ (⟨#[215, 144]⟩ : ByteArray)).size + t367.size ≤ 9223372036854775807 then (some (t365.toList == ((t366 ++ (⟨#[215, 144]⟩ : ByteArray)) ++ t367).toList)) else (none)) = some r := H
                          have A32 := Aside0.mk A320
                          clear A320
                          by_cases c33 : (t366 ++ (⟨#[215, 144]⟩ : ByteArray)).size + t367.size ≤ 9223372036854775807
                          · rw [if_pos c33] at H
                            have c33b0 := eq_true c33
                            have c33b1 : decide ((t366 ++ (⟨#[215, 144]⟩ : ByteArray)).size + t367.size ≤ 9223372036854775807) = true := decide_eq_true c33
                            try have c33b2 : (9223372036854775807 < (t366 ++ (⟨#[215, 144]⟩ : ByteArray)).size + t367.size) = False := eq_false (Nat.not_lt.2 c33)
                            obtain rfl := Option.some.inj H
                            go_wp2_with (first | ((with_reducible refine gate_callee (f := 15) rfl ?_); refine goesL_ (some 24) rfl rfl Tryd.func15 (by kernel_rfl) rfl #[] rfl (by (try simp only [List.map_toArray, List.map_cons, List.map_nil]); first | done | rfl | (simp only [List.length_drop, List.length_take]; rfl)) ?_; (with_reducible refine (pentaglotlaw43_awake.calls kj2  true _ (Glob.below HG.out (by repeat (first | (with_reducible first | exact HB.out | apply below_alloc | apply pw_below_drewN | apply below_drew1) | exact HB.out))) A17.out).mono ?_); rintro e w34 ⟨rfl, hb⟩; refine ⟨_, rfl, ?_⟩; have n0_ := Aside0.mk (below_step (by repeat (first | (with_reducible first | exact HB.out | apply below_alloc | apply pw_below_drewN | apply below_drew1) | exact HB.out)) hb); clear HB; have HB := n0_; clear n0_; (try clear hb); (try clear hb2); (try clear hk); (try clear hi)) | (go_at_call 22; (with_reducible refine (bidi_Visual.calls kj2 0 ((a0 ++ (⟨#[120]⟩ : ByteArray)) ++ a1) t362 _ (Glob.below HG.out (by repeat (first | (with_reducible first | exact HB.out | apply below_alloc | apply pw_below_drewN | apply below_drew1) | exact HB.out))) A21.out).mono ?_); rintro e w35 ⟨rfl, hb⟩; have n0_ := Aside0.mk (below_step (by repeat (first | (with_reducible first | exact HB.out | apply below_alloc | apply pw_below_drewN | apply below_drew1) | exact HB.out)) hb); clear HB; have HB := n0_; clear n0_; (try clear hb); (try clear hb2); (try clear hk); (try clear hi)) | (go_at_call 22; (with_reducible refine (bidi_Visual.calls kj2 0 a0 t363 _ (Glob.below HG.out (by repeat (first | (with_reducible first | exact HB.out | apply below_alloc | apply pw_below_drewN | apply below_drew1) | exact HB.out))) A22.out).mono ?_); rintro e w36 ⟨rfl, hb⟩; have n0_ := Aside0.mk (below_step (by repeat (first | (with_reducible first | exact HB.out | apply below_alloc | apply pw_below_drewN | apply below_drew1) | exact HB.out)) hb); clear HB; have HB := n0_; clear n0_; (try clear hb); (try clear hb2); (try clear hk); (try clear hi)) | (go_at_call 22; (with_reducible refine (bidi_Visual.calls kj2 0 a1 t364 _ (Glob.below HG.out (by repeat (first | (with_reducible first | exact HB.out | apply below_alloc | apply pw_below_drewN | apply below_drew1) | exact HB.out))) A24.out).mono ?_); rintro e w37 ⟨rfl, hb⟩; have n0_ := Aside0.mk (below_step (by repeat (first | (with_reducible first | exact HB.out | apply below_alloc | apply pw_below_drewN | apply below_drew1) | exact HB.out)) hb); clear HB; have HB := n0_; clear n0_; (try clear hb); (try clear hb2); (try clear hk); (try clear hi)) | (go_at_call 22; (with_reducible refine (bidi_Visual.calls kj2 1 ((a0 ++ (⟨#[215, 144]⟩ : ByteArray)) ++ a1) t365 _ (Glob.below HG.out (by repeat (first | (with_reducible first | exact HB.out | apply below_alloc | apply pw_below_drewN | apply below_drew1) | exact HB.out))) A29.out).mono ?_); rintro e w38 ⟨rfl, hb⟩; have n0_ := Aside0.mk (below_step (by repeat (first | (with_reducible first | exact HB.out | apply below_alloc | apply pw_below_drewN | apply below_drew1) | exact HB.out)) hb); clear HB; have HB := n0_; clear n0_; (try clear hb); (try clear hb2); (try clear hk); (try clear hi)) | (go_at_call 22; (with_reducible refine (bidi_Visual.calls kj2 1 a1 t366 _ (Glob.below HG.out (by repeat (first | (with_reducible first | exact HB.out | apply below_alloc | apply pw_below_drewN | apply below_drew1) | exact HB.out))) A30.out).mono ?_); rintro e w39 ⟨rfl, hb⟩; have n0_ := Aside0.mk (below_step (by repeat (first | (with_reducible first | exact HB.out | apply below_alloc | apply pw_below_drewN | apply below_drew1) | exact HB.out)) hb); clear HB; have HB := n0_; clear n0_; (try clear hb); (try clear hb2); (try clear hk); (try clear hi)) | (go_at_call 22; (with_reducible refine (bidi_Visual.calls kj2 1 a0 t367 _ (Glob.below HG.out (by repeat (first | (with_reducible first | exact HB.out | apply below_alloc | apply pw_below_drewN | apply below_drew1) | exact HB.out))) A32.out).mono ?_); rintro e w40 ⟨rfl, hb⟩; have n0_ := Aside0.mk (below_step (by repeat (first | (with_reducible first | exact HB.out | apply below_alloc | apply pw_below_drewN | apply below_drew1) | exact HB.out)) hb); clear HB; have HB := n0_; clear n0_; (try clear hb); (try clear hb2); (try clear hk); (try clear hi)))
                            go_ret
                            exact ⟨by first | rfl | (simp [errW_none, errW_some] <;> rfl) | (simp [*, errW_none, errW_some] <;> rfl), by repeat (first | (with_reducible first | exact HB.out | apply below_alloc | apply pw_below_drewN | apply below_drew1) | exact HB.out)⟩
                          · rw [if_neg c33] at H
                            exact absurd H (by simp)
                        · rw [if_neg c31] at H
                          exact absurd H (by simp)
                      · rw [if_neg c28] at H
                        exact absurd H (by simp)
                    · rw [if_neg c27] at H
                      exact absurd H (by simp)
                  · rw [if_neg c26] at H
                    have c26b0 : (t362.toList == ((t363 ++ (⟨#[120]⟩ : ByteArray)) ++ t364).toList) = false := beq_eq_false_iff_ne.mpr c26
                    have c26b1 : (t362.toList != ((t363 ++ (⟨#[120]⟩ : ByteArray)) ++ t364).toList) = true := bne_iff_ne.mpr c26
                    obtain rfl := Option.some.inj H
                    go_wp2_with (first | ((with_reducible refine gate_callee (f := 15) rfl ?_); refine goesL_ (some 24) rfl rfl Tryd.func15 (by kernel_rfl) rfl #[] rfl (by (try simp only [List.map_toArray, List.map_cons, List.map_nil]); first | done | rfl | (simp only [List.length_drop, List.length_take]; rfl)) ?_; (with_reducible refine (pentaglotlaw43_awake.calls kj2  true _ (Glob.below HG.out (by repeat (first | (with_reducible first | exact HB.out | apply below_alloc | apply pw_below_drewN | apply below_drew1) | exact HB.out))) A17.out).mono ?_); rintro e w41 ⟨rfl, hb⟩; refine ⟨_, rfl, ?_⟩; have n0_ := Aside0.mk (below_step (by repeat (first | (with_reducible first | exact HB.out | apply below_alloc | apply pw_below_drewN | apply below_drew1) | exact HB.out)) hb); clear HB; have HB := n0_; clear n0_; (try clear hb); (try clear hb2); (try clear hk); (try clear hi)) | (go_at_call 22; (with_reducible refine (bidi_Visual.calls kj2 0 ((a0 ++ (⟨#[120]⟩ : ByteArray)) ++ a1) t362 _ (Glob.below HG.out (by repeat (first | (with_reducible first | exact HB.out | apply below_alloc | apply pw_below_drewN | apply below_drew1) | exact HB.out))) A21.out).mono ?_); rintro e w42 ⟨rfl, hb⟩; have n0_ := Aside0.mk (below_step (by repeat (first | (with_reducible first | exact HB.out | apply below_alloc | apply pw_below_drewN | apply below_drew1) | exact HB.out)) hb); clear HB; have HB := n0_; clear n0_; (try clear hb); (try clear hb2); (try clear hk); (try clear hi)) | (go_at_call 22; (with_reducible refine (bidi_Visual.calls kj2 0 a0 t363 _ (Glob.below HG.out (by repeat (first | (with_reducible first | exact HB.out | apply below_alloc | apply pw_below_drewN | apply below_drew1) | exact HB.out))) A22.out).mono ?_); rintro e w43 ⟨rfl, hb⟩; have n0_ := Aside0.mk (below_step (by repeat (first | (with_reducible first | exact HB.out | apply below_alloc | apply pw_below_drewN | apply below_drew1) | exact HB.out)) hb); clear HB; have HB := n0_; clear n0_; (try clear hb); (try clear hb2); (try clear hk); (try clear hi)) | (go_at_call 22; (with_reducible refine (bidi_Visual.calls kj2 0 a1 t364 _ (Glob.below HG.out (by repeat (first | (with_reducible first | exact HB.out | apply below_alloc | apply pw_below_drewN | apply below_drew1) | exact HB.out))) A24.out).mono ?_); rintro e w44 ⟨rfl, hb⟩; have n0_ := Aside0.mk (below_step (by repeat (first | (with_reducible first | exact HB.out | apply below_alloc | apply pw_below_drewN | apply below_drew1) | exact HB.out)) hb); clear HB; have HB := n0_; clear n0_; (try clear hb); (try clear hb2); (try clear hk); (try clear hi)))
                    go_ret
                    exact ⟨by first | rfl | (simp [errW_none, errW_some] <;> rfl) | (simp [*, errW_none, errW_some] <;> rfl), by repeat (first | (with_reducible first | exact HB.out | apply below_alloc | apply pw_below_drewN | apply below_drew1) | exact HB.out)⟩
                · rw [if_neg c25] at H
                  exact absurd H (by simp)
              · rw [if_neg c23] at H
                exact absurd H (by simp)
            · rw [if_neg c20] at H
              exact absurd H (by simp)
          · rw [if_neg c19] at H
            exact absurd H (by simp)
        · replace c18 := Bool.eq_false_iff.mpr c18
          subst c18
          have H1 : (some false) = some r := by rw [if_neg (show ¬ (false = true) by decide)] at H; exact H
          clear H
          have H := H1
          clear H1
          obtain rfl := Option.some.inj H
          go_wp2_with (first | ((with_reducible refine gate_callee (f := 15) rfl ?_); refine goesL_ (some 24) rfl rfl Tryd.func15 (by kernel_rfl) rfl #[] rfl (by (try simp only [List.map_toArray, List.map_cons, List.map_nil]); first | done | rfl | (simp only [List.length_drop, List.length_take]; rfl)) ?_; (with_reducible refine (pentaglotlaw43_awake.calls kj2  false _ (Glob.below HG.out (by repeat (first | (with_reducible first | exact HB.out | apply below_alloc | apply pw_below_drewN | apply below_drew1) | exact HB.out))) A17.out).mono ?_); rintro e w45 ⟨rfl, hb⟩; refine ⟨_, rfl, ?_⟩; have n0_ := Aside0.mk (below_step (by repeat (first | (with_reducible first | exact HB.out | apply below_alloc | apply pw_below_drewN | apply below_drew1) | exact HB.out)) hb); clear HB; have HB := n0_; clear n0_; (try clear hb); (try clear hb2); (try clear hk); (try clear hi)))
          go_ret
          exact ⟨by first | rfl | (simp [errW_none, errW_some] <;> rfl) | (simp [*, errW_none, errW_some] <;> rfl), by repeat (first | (with_reducible first | exact HB.out | apply below_alloc | apply pw_below_drewN | apply below_drew1) | exact HB.out)⟩

/-- THE ONE PURE STATEMENT of pentaglotlaw43_BidiParts: yours. -/
def pentaglotlaw43_BidiParts.Pure : Prop := ∀ (a0 : ByteArray) (a1 : ByteArray), a0.size ≤ 140737488351232 → a1.size ≤ 140737488351232 → ∃ k, pentaglotlaw43_BidiParts.f k a0 a1 = some true

end Go.Proofs.YtfecolaljnijbaaDoor.C
