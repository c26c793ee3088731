-- WRITTEN BY mkprint.py, a program of this session, over the kit's print of the given program. Not trusted: Lean checks it.
import Derived.Test.YtfecolaljnijbaaDoorCx0
import Derived.Test.YtfecolaljnijbaaDoorCx2
import Derived.Test.YtfecolaljnijbaaDoorCx3
import Derived.Test.YtfecolaljnijbaaDoorCx7
import Derived.Test.YtfecolaljnijbaaDoorCx10
import Derived.Test.YtfecolaljnijbaaDoorCx13
import Derived.Test.YtfecolaljnijbaaDoorCx16
import Derived.Test.YtfecolaljnijbaaDoorCx20
namespace Go.Proofs.YtfecolaljnijbaaDoor.C
open Go.RowKit Go.Proofs.YtfecolaljnijbaaDoorW.PrintWords Go.Proofs.YtfecolaljnijbaaDoorW.PrintLast Go.Proofs.YtfecolaljnijbaaDoorW.PrintMore
attribute [local go_sem] max2_int min2_int max_two min_two max_three min_three max_four min_four   -- for this text's walks alone
set_option linter.unusedVariables false
set_option linter.unusedSimpArgs false

/-! ### pentaglotlaw43_BidiRuns: function 8 -/
set_option maxHeartbeats 8000000 in
set_option maxRecDepth 100000 in
theorem pentaglotlaw43_BidiRuns.calls (k : Nat) (a0 : Int) (a1 : ByteArray) (r : Bool) (w : World) (hG : Glob w) (h : pentaglotlaw43_BidiRuns.f k a0 a1 = some r) :
    Calls Tryd.prog 8 #[.int .i64 a0, .string a1] w fun e w' => e = .returned (.bool r) ∧ Below w.heap.size w w' := by
  have HG := Aside0.mk hG
  clear hG
  have HB := Aside0.mk (Below.refl w.heap.size w)
  have H : ((pentaglotlaw43_short.f a1).bind fun t304 => (if t304 = true then ((utf8_ValidString.f a1).bind fun t305 => (pentaglotlaw43_BidiRuns.j0 k a0 a1 (!t305))) else (pentaglotlaw43_BidiRuns.j0 k a0 a1 true))) = some r := h
  clear h
  have HC3 := Aside0.mk H
  clear H
  go_enter Tryd.func8, Tryd.ntmps8
  go_upto_region 1 with (fail)
  repeat (go_quiet (fail); go_upto_region 1 with (fail))
  go_cut [22] (fun v22 wc => ∃ (kq : Nat) (x22_2 : Bool), v22 = .bool x22_2 ∧ Aside0 (pentaglotlaw43_BidiRuns.j0 kq a0 a1 x22_2 = some r) ∧ Aside0 (kq ≤ k) ∧ Aside0 (Below w.heap.size w wc))
  case first =>
    have H := HC3.out
    clear HC3
    replace H := Option.bind_eq_some_iff.mp H
    obtain ⟨t304, A40, H⟩ := H
    replace H : (if t304 = true then ((utf8_ValidString.f a1).bind fun t305 => (pentaglotlaw43_BidiRuns.j0 k a0 a1 (!t305))) else (pentaglotlaw43_BidiRuns.j0 k a0 a1 true)) = some r := H
    have A4 := Aside0.mk A40
    clear A40
    by_cases c5 : t304 = true
    · subst c5
      have H1 : ((utf8_ValidString.f a1).bind fun t305 => (pentaglotlaw43_BidiRuns.j0 k a0 a1 (!t305))) = some r := by rw [if_pos rfl] at H; exact H
      clear H
      have H := H1
      clear H1
      replace H := Option.bind_eq_some_iff.mp H
      obtain ⟨t305, A60, H⟩ := H
      replace H : (pentaglotlaw43_BidiRuns.j0 k a0 a1 (!t305)) = some r := H
      have A6 := Aside0.mk A60
      clear A60
      have H' := Aside0.mk H
      clear H
      go_wp2_with (first | (go_at_call 12; (with_reducible refine (pentaglotlaw43_short.calls a1 true _ A4.out).mono ?_); rintro e w' ⟨rfl, ⟨nd, rfl⟩⟩; (try first | exact ⟨rfl, _, World.drewN_drewN _ _ _⟩ | exact ⟨rfl, _, Eq.trans (World.drewN_drewN _ _ _) (congrArg (World.drewN _) (Nat.add_assoc _ _ _))⟩)) | (go_at_call 16; (with_reducible refine (utf8_ValidString.calls a1 t305 _ (Glob.below HG.out (by repeat (first | (with_reducible first | exact HB.out | apply below_alloc | apply pw_below_drewN | apply below_drew1) | exact HB.out))) A6.out).mono ?_); rintro e w7 ⟨rfl, hb⟩; have n0_ := Aside0.mk (below_step (by repeat (first | (with_reducible first | exact HB.out | apply below_alloc | apply pw_below_drewN | apply below_drew1) | exact HB.out)) hb); clear HB; have HB := n0_; clear n0_; (try clear hb); (try clear hb2); (try clear hk); (try clear hi)))
      repeat (go_quiet (first | (go_at_call 12; (with_reducible refine (pentaglotlaw43_short.calls a1 true _ A4.out).mono ?_); rintro e w' ⟨rfl, ⟨nd, rfl⟩⟩; (try first | exact ⟨rfl, _, World.drewN_drewN _ _ _⟩ | exact ⟨rfl, _, Eq.trans (World.drewN_drewN _ _ _) (congrArg (World.drewN _) (Nat.add_assoc _ _ _))⟩)) | (go_at_call 16; (with_reducible refine (utf8_ValidString.calls a1 t305 _ (Glob.below HG.out (by repeat (first | (with_reducible first | exact HB.out | apply below_alloc | apply pw_below_drewN | apply below_drew1) | exact HB.out))) A6.out).mono ?_); rintro e w7 ⟨rfl, hb⟩; have n0_ := Aside0.mk (below_step (by repeat (first | (with_reducible first | exact HB.out | apply below_alloc | apply pw_below_drewN | apply below_drew1) | exact HB.out)) hb); clear HB; have HB := n0_; clear n0_; (try clear hb); (try clear hb2); (try clear hk); (try clear hi))); try go_wp2_with (first | (go_at_call 12; (with_reducible refine (pentaglotlaw43_short.calls a1 true _ A4.out).mono ?_); rintro e w' ⟨rfl, ⟨nd, rfl⟩⟩; (try first | exact ⟨rfl, _, World.drewN_drewN _ _ _⟩ | exact ⟨rfl, _, Eq.trans (World.drewN_drewN _ _ _) (congrArg (World.drewN _) (Nat.add_assoc _ _ _))⟩)) | (go_at_call 16; (with_reducible refine (utf8_ValidString.calls a1 t305 _ (Glob.below HG.out (by repeat (first | (with_reducible first | exact HB.out | apply below_alloc | apply pw_below_drewN | apply below_drew1) | exact HB.out))) A6.out).mono ?_); rintro e w7 ⟨rfl, hb⟩; have n0_ := Aside0.mk (below_step (by repeat (first | (with_reducible first | exact HB.out | apply below_alloc | apply pw_below_drewN | apply below_drew1) | exact HB.out)) hb); clear HB; have HB := n0_; clear n0_; (try clear hb); (try clear hb2); (try clear hk); (try clear hi))))
      go_meet
      case rel => exact ⟨_, (!t305), (by first | rfl | (simp; done) | (simp [*]; done)), H', ⟨by first | omega | exact Nat.le_refl _⟩, ⟨by repeat (first | (with_reducible first | exact HB.out | apply below_alloc | apply pw_below_drewN | apply below_drew1) | exact HB.out)⟩⟩
    · replace c5 := Bool.eq_false_iff.mpr c5
      subst c5
      have H1 : (pentaglotlaw43_BidiRuns.j0 k a0 a1 true) = some r := by rw [if_neg (show ¬ (false = true) by decide)] at H; exact H
      clear H
      have H := H1
      clear H1
      have H' := Aside0.mk H
      clear H
      go_wp2_with (first | (go_at_call 12; (with_reducible refine (pentaglotlaw43_short.calls a1 false _ A4.out).mono ?_); rintro e w' ⟨rfl, ⟨nd, rfl⟩⟩; (try first | exact ⟨rfl, _, World.drewN_drewN _ _ _⟩ | exact ⟨rfl, _, Eq.trans (World.drewN_drewN _ _ _) (congrArg (World.drewN _) (Nat.add_assoc _ _ _))⟩)))
      repeat (go_quiet (first | (go_at_call 12; (with_reducible refine (pentaglotlaw43_short.calls a1 false _ A4.out).mono ?_); rintro e w' ⟨rfl, ⟨nd, rfl⟩⟩; (try first | exact ⟨rfl, _, World.drewN_drewN _ _ _⟩ | exact ⟨rfl, _, Eq.trans (World.drewN_drewN _ _ _) (congrArg (World.drewN _) (Nat.add_assoc _ _ _))⟩))); try go_wp2_with (first | (go_at_call 12; (with_reducible refine (pentaglotlaw43_short.calls a1 false _ A4.out).mono ?_); rintro e w' ⟨rfl, ⟨nd, rfl⟩⟩; (try first | exact ⟨rfl, _, World.drewN_drewN _ _ _⟩ | exact ⟨rfl, _, Eq.trans (World.drewN_drewN _ _ _) (congrArg (World.drewN _) (Nat.add_assoc _ _ _))⟩))))
      go_meet
      case rel => exact ⟨_, (true), (by first | rfl | (simp; done) | (simp [*]; done)), H', ⟨by first | omega | exact Nat.le_refl _⟩, ⟨by repeat (first | (with_reducible first | exact HB.out | apply below_alloc | apply pw_below_drewN | apply below_drew1) | exact HB.out)⟩⟩
  case rest =>
    clear HC3
    try clear p2
    try clear c5
    obtain ⟨kq, x22_2, rfl, HA, HJ2, HB⟩ := hcut
    cases kq with
    | zero => exact absurd HA.out (by simp [pentaglotlaw43_BidiRuns.j0])
    | succ kj2 =>
      have H := HA.out
      clear HA
      simp only [pentaglotlaw43_BidiRuns.j0] at H
      by_cases c8 : x22_2 = true
      · subst c8
        have H1 : ((pentaglotlaw43_awake.f kj2).bind fun t306 => (some t306)) = some r := by rw [if_pos rfl] at H; exact H
        clear H
        have H := H1
        clear H1
        replace H := Option.bind_eq_some_iff.mp H
        obtain ⟨t306, A90, H⟩ := H
        replace H : (some t306) = some r := H
        have A9 := Aside0.mk A90
        clear A90
        obtain rfl := Option.some.inj H
        go_wp2_with (first | (go_at_call 15; (with_reducible refine (pentaglotlaw43_awake.calls kj2  t306 _ (Glob.below HG.out (by repeat (first | (with_reducible first | exact HB.out | apply below_alloc | apply pw_below_drewN | apply below_drew1) | exact HB.out))) A9.out).mono ?_); rintro e w10 ⟨rfl, hb⟩; have n0_ := Aside0.mk (below_step (by repeat (first | (with_reducible first | exact HB.out | apply below_alloc | apply pw_below_drewN | apply below_drew1) | exact HB.out)) hb); clear HB; have HB := n0_; clear n0_; (try clear hb); (try clear hb2); (try clear hk); (try clear hi)))
        repeat (go_quiet (first | (go_at_call 15; (with_reducible refine (pentaglotlaw43_awake.calls kj2  t306 _ (Glob.below HG.out (by repeat (first | (with_reducible first | exact HB.out | apply below_alloc | apply pw_below_drewN | apply below_drew1) | exact HB.out))) A9.out).mono ?_); rintro e w10 ⟨rfl, hb⟩; have n0_ := Aside0.mk (below_step (by repeat (first | (with_reducible first | exact HB.out | apply below_alloc | apply pw_below_drewN | apply below_drew1) | exact HB.out)) hb); clear HB; have HB := n0_; clear n0_; (try clear hb); (try clear hb2); (try clear hk); (try clear hi))); try go_wp2_with (first | (go_at_call 15; (with_reducible refine (pentaglotlaw43_awake.calls kj2  t306 _ (Glob.below HG.out (by repeat (first | (with_reducible first | exact HB.out | apply below_alloc | apply pw_below_drewN | apply below_drew1) | exact HB.out))) A9.out).mono ?_); rintro e w10 ⟨rfl, hb⟩; have n0_ := Aside0.mk (below_step (by repeat (first | (with_reducible first | exact HB.out | apply below_alloc | apply pw_below_drewN | apply below_drew1) | exact HB.out)) hb); clear HB; have HB := n0_; clear n0_; (try clear hb); (try clear hb2); (try clear hk); (try clear hi))))
        go_ret
        exact ⟨by first | rfl | (simp [errW_none, errW_some] <;> rfl) | (simp [*, errW_none, errW_some] <;> rfl), by repeat (first | (with_reducible first | exact HB.out | apply below_alloc | apply pw_below_drewN | apply below_drew1) | exact HB.out)⟩
      · replace c8 := Bool.eq_false_iff.mpr c8
        subst c8
        have H1 : (if a1.size ≤ 70368744177664 then ((some (rns a1 : List Int)).bind fun y307 => ((bidi_Levels.f kj2 a0 a1).bind fun t310 => ((bidi_Order.f kj2 a0 a1).bind fun t313 => ((bidi_Runs.f kj2 a0 a1).bind fun t316 => (if (t310.length : Int) = (y307.length : Int) then (pentaglotlaw43_BidiRuns.j1 kj2 y307 t310 t313 t316 ((t313.length : Int) != (y307.length : Int))) else (pentaglotlaw43_BidiRuns.j1 kj2 y307 t310 t313 t316 true)))))) else (none)) = some r := by rw [if_neg (show ¬ (false = true) by decide)] at H; exact H
        clear H
        have H := H1
        clear H1
        by_cases c11 : a1.size ≤ 70368744177664
        · rw [if_pos c11] at H
          have c11b0 := eq_true c11
          have c11b1 : decide (a1.size ≤ 70368744177664) = true := decide_eq_true c11
          clear c11
          obtain ⟨y307, hy307⟩ : ∃ y_ : List Int, y_ = (rns a1) := ⟨_, rfl⟩
          replace H : ((bidi_Levels.f kj2 a0 a1).bind fun t310 => ((bidi_Order.f kj2 a0 a1).bind fun t313 => ((bidi_Runs.f kj2 a0 a1).bind fun t316 => (if (t310.length : Int) = (y307.length : Int) then (pentaglotlaw43_BidiRuns.j1 kj2 y307 t310 t313 t316 ((t313.length : Int) != (y307.length : Int))) else (pentaglotlaw43_BidiRuns.j1 kj2 y307 t310 t313 t316 true))))) = some r := by first | (rw [hy307]; with_reducible exact H) | (have H2_ := (Option.bind_some _ _).symm.trans H; rw [hy307]; with_reducible exact H2_) | (have H2_ := (Option.bind_some _ _).symm.trans H; with_reducible exact H2_) | with_reducible exact H | (rw [hy307]; exact H) | exact H
          have Ny307 := Aside0.mk hy307
          clear hy307
          replace H := Option.bind_eq_some_iff.mp H
          obtain ⟨t310, A120, H⟩ := H
          replace H : ((bidi_Order.f kj2 a0 a1).bind fun t313 => ((bidi_Runs.f kj2 a0 a1).bind fun t316 => (if (t310.length : Int) = (y307.length : Int) then (pentaglotlaw43_BidiRuns.j1 kj2 y307 t310 t313 t316 ((t313.length : Int) != (y307.length : Int))) else (pentaglotlaw43_BidiRuns.j1 kj2 y307 t310 t313 t316 true)))) = some r := H
          have A12 := Aside0.mk A120
          clear A120
          replace H := Option.bind_eq_some_iff.mp H
          obtain ⟨t313, A130, H⟩ := H
          replace H : ((bidi_Runs.f kj2 a0 a1).bind fun t316 => (if (t310.length : Int) = (y307.length : Int) then (pentaglotlaw43_BidiRuns.j1 kj2 y307 t310 t313 t316 ((t313.length : Int) != (y307.length : Int))) else (pentaglotlaw43_BidiRuns.j1 kj2 y307 t310 t313 t316 true))) = some r := H
          have A13 := Aside0.mk A130
          clear A130
          replace H := Option.bind_eq_some_iff.mp H
          obtain ⟨t316, A140, H⟩ := H
          replace H : (if (t310.length : Int) = (y307.length : Int) then (pentaglotlaw43_BidiRuns.j1 kj2 y307 t310 t313 t316 ((t313.length : Int) != (y307.length : Int))) else (pentaglotlaw43_BidiRuns.j1 kj2 y307 t310 t313 t316 true)) = some r := H
          have A14 := Aside0.mk A140
          clear A140
          have HC15 := Aside0.mk H
          clear H
          go_upto_region 7 with (first | ((with_reducible refine gate_dst (N := 25) rfl ?_); (try (refine gate_guard (by rfl) ?_; dsimp only)); refine Kd.R_runes _ 21 rfl (N := 25) rfl 9 26 _ rfl a1 rfl Tryd.underlying9 Tryd.underlying26 Tryd.underlying21 (of_decide_eq_true (by first | (with_reducible assumption) | assumption)) (ok := fun _ => True) (okp := fun _ => True) (fun _ hk => hk) trivial (Below.refl _ _) (Nat.le_refl _) ?_; intro v308 w16 ho17 hb hg_ hnew_; clear hg_ hnew_; (first | rw [← Ny307.out] at ho17 | (simp only [Int.reduceToNat] at ho17; rw [← Ny307.out] at ho17)); have n0_ := Aside0.mk (Kd.R_lower ho17 (below_size (by repeat (first | (with_reducible first | exact HB.out | apply below_alloc | apply pw_below_drewN | apply below_drew1) | exact HB.out)))); have n1_ := Aside0.mk (below_step (by repeat (first | (with_reducible first | exact HB.out | apply below_alloc | apply pw_below_drewN | apply below_drew1) | exact HB.out)) hb); clear HB; have HO309 := n0_; have HB := n1_; clear n0_ n1_; clear hb ho17) | (go_at_call 19; (with_reducible refine (bidi_Levels.calls kj2 a0 a1 t310 _ (Glob.below HG.out (by repeat (first | (with_reducible first | exact HB.out | apply below_alloc | apply pw_below_drewN | apply below_drew1) | exact HB.out))) A12.out).mono ?_); rintro e w18 ⟨v311, rfl, ho0, hb⟩; have n0_ := Aside0.mk (Kd.R_below (by (with_reducible repeat (first | apply Kd.R_alloc | apply Kd.R_drewN | apply Kd.R_drew)); exact HO309.out) hb); have n1_ := Aside0.mk (Kd.R_lower ho0 (below_size (by repeat (first | (with_reducible first | exact HB.out | apply below_alloc | apply pw_below_drewN | apply below_drew1) | exact HB.out)))); have n2_ := Aside0.mk (below_step (by repeat (first | (with_reducible first | exact HB.out | apply below_alloc | apply pw_below_drewN | apply below_drew1) | exact HB.out)) hb); clear HO309; clear HB; have HO309 := n0_; have HO312 := n1_; have HB := n2_; clear n0_ n1_ n2_; (try clear hb); (try clear hb2); (try clear hk); (try clear hi); (try clear ho0)) | (go_at_call 20; (with_reducible refine (bidi_Order.calls kj2 a0 a1 t313 _ (Glob.below HG.out (by repeat (first | (with_reducible first | exact HB.out | apply below_alloc | apply pw_below_drewN | apply below_drew1) | exact HB.out))) A13.out).mono ?_); rintro e w19 ⟨v314, rfl, ho0, hb⟩; have n0_ := Aside0.mk (Kd.R_below (by (with_reducible repeat (first | apply Kd.R_alloc | apply Kd.R_drewN | apply Kd.R_drew)); exact HO309.out) hb); have n1_ := Aside0.mk (Kd.R_elder' (by (with_reducible repeat (first | apply Kd.R_alloc | apply Kd.R_drewN | apply Kd.R_drew)); exact HO312.out) (Kd.R_base ho0) hb); have n2_ := Aside0.mk (Kd.R_lower (Kd.R_new' ho0 (Kd.R_lt (by (with_reducible repeat (first | apply Kd.R_alloc | apply Kd.R_drewN | apply Kd.R_drew)); exact HO312.out))) (below_size (by repeat (first | (with_reducible first | exact HB.out | apply below_alloc | apply pw_below_drewN | apply below_drew1) | exact HB.out)))); have n3_ := Aside0.mk (below_step (by repeat (first | (with_reducible first | exact HB.out | apply below_alloc | apply pw_below_drewN | apply below_drew1) | exact HB.out)) hb); clear HO309; clear HO312; clear HB; have HO309 := n0_; have HO312 := n1_; have HO315 := n2_; have HB := n3_; clear n0_ n1_ n2_ n3_; (try clear hb); (try clear hb2); (try clear hk); (try clear hi); (try clear ho0)) | (go_at_call 21; (with_reducible refine (bidi_Runs.calls kj2 a0 a1 t316 _ (Glob.below HG.out (by repeat (first | (with_reducible first | exact HB.out | apply below_alloc | apply pw_below_drewN | apply below_drew1) | exact HB.out))) A14.out).mono ?_); rintro e w20 ⟨v317, rfl, ho0, hb⟩; have n0_ := Aside0.mk (Kd.R_below (by (with_reducible repeat (first | apply Kd.R_alloc | apply Kd.R_drewN | apply Kd.R_drew)); exact HO309.out) hb); have n1_ := Aside0.mk (Kd.R_below (by (with_reducible repeat (first | apply Kd.R_alloc | apply Kd.R_drewN | apply Kd.R_drew)); exact HO312.out) hb); have n2_ := Aside0.mk (Kd.R_below (by (with_reducible repeat (first | apply Kd.R_alloc | apply Kd.R_drewN | apply Kd.R_drew)); exact HO315.out) hb); have n3_ := Aside0.mk (Kd.R_lower ho0 (below_size (by repeat (first | (with_reducible first | exact HB.out | apply below_alloc | apply pw_below_drewN | apply below_drew1) | exact HB.out)))); have n4_ := Aside0.mk (below_step (by repeat (first | (with_reducible first | exact HB.out | apply below_alloc | apply pw_below_drewN | apply below_drew1) | exact HB.out)) hb); clear HO309; clear HO312; clear HO315; clear HB; have HO309 := n0_; have HO312 := n1_; have HO315 := n2_; have HO318 := n3_; have HB := n4_; clear n0_ n1_ n2_ n3_ n4_; (try clear hb); (try clear hb2); (try clear hk); (try clear hi); (try clear ho0)))
          repeat (go_quiet (first | ((with_reducible refine gate_dst (N := 25) rfl ?_); (try (refine gate_guard (by rfl) ?_; dsimp only)); refine Kd.R_runes _ 21 rfl (N := 25) rfl 9 26 _ rfl a1 rfl Tryd.underlying9 Tryd.underlying26 Tryd.underlying21 (of_decide_eq_true (by first | (with_reducible assumption) | assumption)) (ok := fun _ => True) (okp := fun _ => True) (fun _ hk => hk) trivial (Below.refl _ _) (Nat.le_refl _) ?_; intro v308 w16 ho17 hb hg_ hnew_; clear hg_ hnew_; (first | rw [← Ny307.out] at ho17 | (simp only [Int.reduceToNat] at ho17; rw [← Ny307.out] at ho17)); have n0_ := Aside0.mk (Kd.R_lower ho17 (below_size (by repeat (first | (with_reducible first | exact HB.out | apply below_alloc | apply pw_below_drewN | apply below_drew1) | exact HB.out)))); have n1_ := Aside0.mk (below_step (by repeat (first | (with_reducible first | exact HB.out | apply below_alloc | apply pw_below_drewN | apply below_drew1) | exact HB.out)) hb); clear HB; have HO309 := n0_; have HB := n1_; clear n0_ n1_; clear hb ho17) | (go_at_call 19; (with_reducible refine (bidi_Levels.calls kj2 a0 a1 t310 _ (Glob.below HG.out (by repeat (first | (with_reducible first | exact HB.out | apply below_alloc | apply pw_below_drewN | apply below_drew1) | exact HB.out))) A12.out).mono ?_); rintro e w18 ⟨v311, rfl, ho0, hb⟩; have n0_ := Aside0.mk (Kd.R_below (by (with_reducible repeat (first | apply Kd.R_alloc | apply Kd.R_drewN | apply Kd.R_drew)); exact HO309.out) hb); have n1_ := Aside0.mk (Kd.R_lower ho0 (below_size (by repeat (first | (with_reducible first | exact HB.out | apply below_alloc | apply pw_below_drewN | apply below_drew1) | exact HB.out)))); have n2_ := Aside0.mk (below_step (by repeat (first | (with_reducible first | exact HB.out | apply below_alloc | apply pw_below_drewN | apply below_drew1) | exact HB.out)) hb); clear HO309; clear HB; have HO309 := n0_; have HO312 := n1_; have HB := n2_; clear n0_ n1_ n2_; (try clear hb); (try clear hb2); (try clear hk); (try clear hi); (try clear ho0)) | (go_at_call 20; (with_reducible refine (bidi_Order.calls kj2 a0 a1 t313 _ (Glob.below HG.out (by repeat (first | (with_reducible first | exact HB.out | apply below_alloc | apply pw_below_drewN | apply below_drew1) | exact HB.out))) A13.out).mono ?_); rintro e w19 ⟨v314, rfl, ho0, hb⟩; have n0_ := Aside0.mk (Kd.R_below (by (with_reducible repeat (first | apply Kd.R_alloc | apply Kd.R_drewN | apply Kd.R_drew)); exact HO309.out) hb); have n1_ := Aside0.mk (Kd.R_elder' (by (with_reducible repeat (first | apply Kd.R_alloc | apply Kd.R_drewN | apply Kd.R_drew)); exact HO312.out) (Kd.R_base ho0) hb); have n2_ := Aside0.mk (Kd.R_lower (Kd.R_new' ho0 (Kd.R_lt (by (with_reducible repeat (first | apply Kd.R_alloc | apply Kd.R_drewN | apply Kd.R_drew)); exact HO312.out))) (below_size (by repeat (first | (with_reducible first | exact HB.out | apply below_alloc | apply pw_below_drewN | apply below_drew1) | exact HB.out)))); have n3_ := Aside0.mk (below_step (by repeat (first | (with_reducible first | exact HB.out | apply below_alloc | apply pw_below_drewN | apply below_drew1) | exact HB.out)) hb); clear HO309; clear HO312; clear HB; have HO309 := n0_; have HO312 := n1_; have HO315 := n2_; have HB := n3_; clear n0_ n1_ n2_ n3_; (try clear hb); (try clear hb2); (try clear hk); (try clear hi); (try clear ho0)) | (go_at_call 21; (with_reducible refine (bidi_Runs.calls kj2 a0 a1 t316 _ (Glob.below HG.out (by repeat (first | (with_reducible first | exact HB.out | apply below_alloc | apply pw_below_drewN | apply below_drew1) | exact HB.out))) A14.out).mono ?_); rintro e w20 ⟨v317, rfl, ho0, hb⟩; have n0_ := Aside0.mk (Kd.R_below (by (with_reducible repeat (first | apply Kd.R_alloc | apply Kd.R_drewN | apply Kd.R_drew)); exact HO309.out) hb); have n1_ := Aside0.mk (Kd.R_below (by (with_reducible repeat (first | apply Kd.R_alloc | apply Kd.R_drewN | apply Kd.R_drew)); exact HO312.out) hb); have n2_ := Aside0.mk (Kd.R_below (by (with_reducible repeat (first | apply Kd.R_alloc | apply Kd.R_drewN | apply Kd.R_drew)); exact HO315.out) hb); have n3_ := Aside0.mk (Kd.R_lower ho0 (below_size (by repeat (first | (with_reducible first | exact HB.out | apply below_alloc | apply pw_below_drewN | apply below_drew1) | exact HB.out)))); have n4_ := Aside0.mk (below_step (by repeat (first | (with_reducible first | exact HB.out | apply below_alloc | apply pw_below_drewN | apply below_drew1) | exact HB.out)) hb); clear HO309; clear HO312; clear HO315; clear HB; have HO309 := n0_; have HO312 := n1_; have HO315 := n2_; have HO318 := n3_; have HB := n4_; clear n0_ n1_ n2_ n3_ n4_; (try clear hb); (try clear hb2); (try clear hk); (try clear hi); (try clear ho0))); go_upto_region 7 with (first | ((with_reducible refine gate_dst (N := 25) rfl ?_); (try (refine gate_guard (by rfl) ?_; dsimp only)); refine Kd.R_runes _ 21 rfl (N := 25) rfl 9 26 _ rfl a1 rfl Tryd.underlying9 Tryd.underlying26 Tryd.underlying21 (of_decide_eq_true (by first | (with_reducible assumption) | assumption)) (ok := fun _ => True) (okp := fun _ => True) (fun _ hk => hk) trivial (Below.refl _ _) (Nat.le_refl _) ?_; intro v308 w16 ho17 hb hg_ hnew_; clear hg_ hnew_; (first | rw [← Ny307.out] at ho17 | (simp only [Int.reduceToNat] at ho17; rw [← Ny307.out] at ho17)); have n0_ := Aside0.mk (Kd.R_lower ho17 (below_size (by repeat (first | (with_reducible first | exact HB.out | apply below_alloc | apply pw_below_drewN | apply below_drew1) | exact HB.out)))); have n1_ := Aside0.mk (below_step (by repeat (first | (with_reducible first | exact HB.out | apply below_alloc | apply pw_below_drewN | apply below_drew1) | exact HB.out)) hb); clear HB; have HO309 := n0_; have HB := n1_; clear n0_ n1_; clear hb ho17) | (go_at_call 19; (with_reducible refine (bidi_Levels.calls kj2 a0 a1 t310 _ (Glob.below HG.out (by repeat (first | (with_reducible first | exact HB.out | apply below_alloc | apply pw_below_drewN | apply below_drew1) | exact HB.out))) A12.out).mono ?_); rintro e w18 ⟨v311, rfl, ho0, hb⟩; have n0_ := Aside0.mk (Kd.R_below (by (with_reducible repeat (first | apply Kd.R_alloc | apply Kd.R_drewN | apply Kd.R_drew)); exact HO309.out) hb); have n1_ := Aside0.mk (Kd.R_lower ho0 (below_size (by repeat (first | (with_reducible first | exact HB.out | apply below_alloc | apply pw_below_drewN | apply below_drew1) | exact HB.out)))); have n2_ := Aside0.mk (below_step (by repeat (first | (with_reducible first | exact HB.out | apply below_alloc | apply pw_below_drewN | apply below_drew1) | exact HB.out)) hb); clear HO309; clear HB; have HO309 := n0_; have HO312 := n1_; have HB := n2_; clear n0_ n1_ n2_; (try clear hb); (try clear hb2); (try clear hk); (try clear hi); (try clear ho0)) | (go_at_call 20; (with_reducible refine (bidi_Order.calls kj2 a0 a1 t313 _ (Glob.below HG.out (by repeat (first | (with_reducible first | exact HB.out | apply below_alloc | apply pw_below_drewN | apply below_drew1) | exact HB.out))) A13.out).mono ?_); rintro e w19 ⟨v314, rfl, ho0, hb⟩; have n0_ := Aside0.mk (Kd.R_below (by (with_reducible repeat (first | apply Kd.R_alloc | apply Kd.R_drewN | apply Kd.R_drew)); exact HO309.out) hb); have n1_ := Aside0.mk (Kd.R_elder' (by (with_reducible repeat (first | apply Kd.R_alloc | apply Kd.R_drewN | apply Kd.R_drew)); exact HO312.out) (Kd.R_base ho0) hb); have n2_ := Aside0.mk (Kd.R_lower (Kd.R_new' ho0 (Kd.R_lt (by (with_reducible repeat (first | apply Kd.R_alloc | apply Kd.R_drewN | apply Kd.R_drew)); exact HO312.out))) (below_size (by repeat (first | (with_reducible first | exact HB.out | apply below_alloc | apply pw_below_drewN | apply below_drew1) | exact HB.out)))); have n3_ := Aside0.mk (below_step (by repeat (first | (with_reducible first | exact HB.out | apply below_alloc | apply pw_below_drewN | apply below_drew1) | exact HB.out)) hb); clear HO309; clear HO312; clear HB; have HO309 := n0_; have HO312 := n1_; have HO315 := n2_; have HB := n3_; clear n0_ n1_ n2_ n3_; (try clear hb); (try clear hb2); (try clear hk); (try clear hi); (try clear ho0)) | (go_at_call 21; (with_reducible refine (bidi_Runs.calls kj2 a0 a1 t316 _ (Glob.below HG.out (by repeat (first | (with_reducible first | exact HB.out | apply below_alloc | apply pw_below_drewN | apply below_drew1) | exact HB.out))) A14.out).mono ?_); rintro e w20 ⟨v317, rfl, ho0, hb⟩; have n0_ := Aside0.mk (Kd.R_below (by (with_reducible repeat (first | apply Kd.R_alloc | apply Kd.R_drewN | apply Kd.R_drew)); exact HO309.out) hb); have n1_ := Aside0.mk (Kd.R_below (by (with_reducible repeat (first | apply Kd.R_alloc | apply Kd.R_drewN | apply Kd.R_drew)); exact HO312.out) hb); have n2_ := Aside0.mk (Kd.R_below (by (with_reducible repeat (first | apply Kd.R_alloc | apply Kd.R_drewN | apply Kd.R_drew)); exact HO315.out) hb); have n3_ := Aside0.mk (Kd.R_lower ho0 (below_size (by repeat (first | (with_reducible first | exact HB.out | apply below_alloc | apply pw_below_drewN | apply below_drew1) | exact HB.out)))); have n4_ := Aside0.mk (below_step (by repeat (first | (with_reducible first | exact HB.out | apply below_alloc | apply pw_below_drewN | apply below_drew1) | exact HB.out)) hb); clear HO309; clear HO312; clear HO315; clear HB; have HO309 := n0_; have HO312 := n1_; have HO315 := n2_; have HO318 := n3_; have HB := n4_; clear n0_ n1_ n2_ n3_ n4_; (try clear hb); (try clear hb2); (try clear hk); (try clear hi); (try clear ho0))))
          (try simp only [Act.put, List.setIfInBounds_toArray, List.set_cons_zero, List.set_cons_succ])
          go_cut [46] (fun v46 wc => ∃ (kq : Nat) (x46_14 : Bool), v46 = .bool x46_14 ∧ Aside0 (pentaglotlaw43_BidiRuns.j1 kq y307 t310 t313 t316 x46_14 = some r) ∧ Aside0 (kq ≤ kj2) ∧ Aside0 (Kd.R (Kd.int .i32) 21 wc w.heap.size (fun _ => True) v308 y307) ∧ Aside0 (Kd.R (Kd.int .i64) 3 wc w.heap.size (fun k_ => some k_ ≠ (v314 : Value).ownBlock) v311 t310) ∧ Aside0 (Kd.R (Kd.int .i64) 3 wc w.heap.size (fun k_ => some k_ ≠ (v311 : Value).ownBlock) v314 t313) ∧ Aside0 (Kd.R k38 38 wc w.heap.size (fun _ => True) v317 t316) ∧ Aside0 (Below w.heap.size w wc))
          case first =>
            have H := HC15.out
            clear HC15
            by_cases c21 : (t310.length : Int) = (y307.length : Int)
            · rw [if_pos c21] at H
              have c21b0 : ((t310.length : Int) == (y307.length : Int)) = true := beq_iff_eq.mpr c21
              have c21b1 : ((t310.length : Int) != (y307.length : Int)) = false := bne_eq_false_iff_eq.mpr c21
              have c21b2 : (t310.length == y307.length) = true := by first | simpa using c21 | (simp at c21 ⊢; omega)
              clear c21
              (first | rw [c21b0] | (simp only [i64_w, i32_w]; rw [c21b0]) | skip)
              have H' := Aside0.mk H
              clear H
              obtain ⟨Ao22, co22, eo22⟩ := Kd.R_slice HO312.out
              subst eo22
              obtain ⟨Ao23, co23, eo23⟩ := Kd.R_slice HO309.out
              subst eo23
              obtain ⟨Ao24, co24, eo24⟩ := Kd.R_slice HO315.out
              subst eo24
              go_wp2
              repeat (go_quiet (fail); try go_wp2)
              go_meet
              case rel => exact ⟨_, (((t313.length : Int) != (y307.length : Int))), (by first | rfl | (simp; done) | (simp [*]; done)), H', ⟨by have := HJ2.out; first | omega | exact Nat.le_refl _⟩, ⟨by (with_reducible repeat (first | apply Kd.R_alloc | apply Kd.R_drewN | apply Kd.R_drew)); exact HO309.out⟩, ⟨by (with_reducible repeat (first | apply Kd.R_alloc | apply Kd.R_drewN | apply Kd.R_drew)); exact Kd.R_mono HO312.out (fun _ hk => hk.2)⟩, ⟨by (with_reducible repeat (first | apply Kd.R_alloc | apply Kd.R_drewN | apply Kd.R_drew)); exact Kd.R_mono HO315.out (fun _ hk => hk.2)⟩, ⟨by (with_reducible repeat (first | apply Kd.R_alloc | apply Kd.R_drewN | apply Kd.R_drew)); exact HO318.out⟩, ⟨by repeat (first | (with_reducible first | exact HB.out | apply below_alloc | apply pw_below_drewN | apply below_drew1) | exact HB.out)⟩⟩
            · rw [if_neg c21] at H
              have c21b0 : ((t310.length : Int) == (y307.length : Int)) = false := beq_eq_false_iff_ne.mpr c21
              have c21b1 : ((t310.length : Int) != (y307.length : Int)) = true := bne_iff_ne.mpr c21
              have c21b2 : (t310.length == y307.length) = false := by first | simpa using c21 | (simp at c21 ⊢; omega)
              (first | rw [c21b0] | (simp only [i64_w, i32_w]; rw [c21b0]) | skip)
              have H' := Aside0.mk H
              clear H
              obtain ⟨Ao25, co25, eo25⟩ := Kd.R_slice HO312.out
              subst eo25
              obtain ⟨Ao26, co26, eo26⟩ := Kd.R_slice HO309.out
              subst eo26
              go_wp2
              repeat (go_quiet (fail); try go_wp2)
              go_meet
              case rel => exact ⟨_, (true), (by first | rfl | (simp; done) | (simp [*]; done)), H', ⟨by have := HJ2.out; first | omega | exact Nat.le_refl _⟩, ⟨by (with_reducible repeat (first | apply Kd.R_alloc | apply Kd.R_drewN | apply Kd.R_drew)); exact HO309.out⟩, ⟨by (with_reducible repeat (first | apply Kd.R_alloc | apply Kd.R_drewN | apply Kd.R_drew)); exact Kd.R_mono HO312.out (fun _ hk => hk.2)⟩, ⟨by (with_reducible repeat (first | apply Kd.R_alloc | apply Kd.R_drewN | apply Kd.R_drew)); exact Kd.R_mono HO315.out (fun _ hk => hk.2)⟩, ⟨by (with_reducible repeat (first | apply Kd.R_alloc | apply Kd.R_drewN | apply Kd.R_drew)); exact HO318.out⟩, ⟨by repeat (first | (with_reducible first | exact HB.out | apply below_alloc | apply pw_below_drewN | apply below_drew1) | exact HB.out)⟩⟩
          case rest =>
            clear HC15
            try clear c1
            try clear c2
            try clear p2
            try clear c5
            try clear c8
            try clear c11
            try clear c11b0
            try clear c11b1
            try clear c21
            try clear c21b0
            try clear c21b1
            try clear c21b2
            try clear p2
            obtain ⟨kq, x46_14, rfl, HA, HJ14, HO_5, HO_6, HO_7, HO_8, HB⟩ := hcut
            cases kq with
            | zero => exact absurd HA.out (by simp [pentaglotlaw43_BidiRuns.j1])
            | succ kj14 =>
              have H := HA.out
              clear HA
              simp only [pentaglotlaw43_BidiRuns.j1] at H
              by_cases c27 : x46_14 = true
              · subst c27
                have H1 : (some false) = some r := by rw [if_pos rfl] at H; exact H
                clear H
                have H := H1
                clear H1
                obtain rfl := Option.some.inj H
                go_wp2
                repeat (go_quiet (fail); try go_wp2)
                go_ret
                exact ⟨by first | rfl | (simp [errW_none, errW_some] <;> rfl) | (simp [*, errW_none, errW_some] <;> rfl), by repeat (first | (with_reducible first | exact HB.out | apply below_alloc | apply pw_below_drewN | apply below_drew1) | exact HB.out)⟩
              · replace c27 := Bool.eq_false_iff.mpr c27
                subst c27
                have H1 : (pentaglotlaw43_BidiRuns.l0 kj14 y307 t310 t313 t316 0 0) = some r := by rw [if_neg (show ¬ (false = true) by decide)] at H; exact H
                clear H
                have H := H1
                clear H1
                have H' := Aside0.mk H
                clear H
                go_wp2
                repeat (go_quiet (fail); try go_wp2)
                go_loopg [9, 10] kj14 (fun kq v9 v10 w' => ∃ (x9_3 : Int) (x10_3 : Int), v9 = .int .i64 x9_3 ∧ v10 = .int .i64 x10_3 ∧ Aside0 (pentaglotlaw43_BidiRuns.l0 kq y307 t310 t313 t316 x9_3 x10_3 = some r) ∧ Aside0 (kq ≤ kj14) ∧ Aside0 (Kd.R (Kd.int .i32) 21 w' w.heap.size (fun _ => True) v308 y307) ∧ Aside0 (Kd.R (Kd.int .i64) 3 w' w.heap.size (fun k_ => some k_ ≠ (v314 : Value).ownBlock) v311 t310) ∧ Aside0 (Kd.R (Kd.int .i64) 3 w' w.heap.size (fun k_ => some k_ ≠ (v311 : Value).ownBlock) v314 t313) ∧ Aside0 (Kd.R k38 38 w' w.heap.size (fun _ => True) v317 t316) ∧ Aside0 (Below w.heap.size w w'))
                case atStart => exact ⟨(0), (0), (by first | rfl | (simp; done) | (simp [*]; done)), (by first | rfl | (simp; done) | (simp [*]; done)), H', ⟨Nat.le_refl _⟩, ⟨by (with_reducible repeat (first | apply Kd.R_alloc | apply Kd.R_drewN | apply Kd.R_drew)); exact HO_5.out⟩, ⟨by (with_reducible repeat (first | apply Kd.R_alloc | apply Kd.R_drewN | apply Kd.R_drew)); exact HO_6.out⟩, ⟨by (with_reducible repeat (first | apply Kd.R_alloc | apply Kd.R_drewN | apply Kd.R_drew)); exact HO_7.out⟩, ⟨by (with_reducible repeat (first | apply Kd.R_alloc | apply Kd.R_drewN | apply Kd.R_drew)); exact HO_8.out⟩, ⟨by repeat (first | (with_reducible first | exact HB.out | apply below_alloc | apply pw_below_drewN | apply below_drew1) | exact HB.out)⟩⟩
                case round =>
                  clear H'
                  try clear c1
                  try clear c2
                  try clear p2
                  try clear c5
                  try clear c8
                  try clear c11
                  try clear c11b0
                  try clear c11b1
                  try clear c21
                  try clear c21b0
                  try clear c21b1
                  try clear c21b2
                  try clear c27
                  try clear p2
                  obtain ⟨x9_3, x10_3, rfl, rfl, HA, HK3, HO_5, HO_6, HO_7, HO_8, HB⟩ := hrel
                  cases gk with
                  | zero => exact absurd HA.out (by simp [pentaglotlaw43_BidiRuns.l0])
                  | succ k3 =>
                    have H := HA.out
                    clear HA
                    simp only [pentaglotlaw43_BidiRuns.l0] at H
                    by_cases c28 : x10_3 < (t316.length : Int)
                    · rw [if_pos c28] at H
                      have c28b0 : decide (x10_3 < (t316.length : Int)) = true := decide_eq_true c28
                      clear c28
                      by_cases c29 : 0 ≤ x10_3
                      · rw [if_pos c29] at H
                        have c29b0 : decide (0 ≤ x10_3) = true := decide_eq_true c29
                        clear c29
                        have HC30 := Aside0.mk H
                        clear H
                        obtain ⟨Ao31, co31, eo31⟩ := Kd.R_slice HO_8.out
                        subst eo31
                        have p320 : 0 ≤ (x10_3 : Int) := of_decide_eq_true (by first | (with_reducible assumption) | assumption)
                        have q320 : x10_3 < (t316.length : Int) := of_decide_eq_true (by first | (with_reducible assumption) | assumption)
                        obtain ⟨ad320, e320, hx320_0, hx320_1⟩ := at_T38 (Kd.R_reads' HO_8.out).2.2 x10_3 p320 q320
                        cases e320
                        replace p320 := eq_true p320
                        replace q320 := eq_true q320
                        have p321 : 0 ≤ (x10_3 : Int) := of_decide_eq_true (by first | (with_reducible assumption) | assumption)
                        have q321 : x10_3 < (t316.length : Int) := of_decide_eq_true (by first | (with_reducible assumption) | assumption)
                        obtain ⟨ad321, e321, hx321_0, hx321_1⟩ := at_T38 (Kd.R_reads' HO_8.out).2.2 x10_3 p321 q321
                        obtain rfl : ad320 = ad321 := (by injection e321)
                        replace p321 := eq_true p321
                        replace q321 := eq_true q321
                        go_upto_region 14 with (fail)
                        repeat (go_quiet (fail); go_upto_region 14 with (fail))
                        go_cut [108] (fun v108 wc => ∃ (kq : Nat) (x108_29 : Bool), v108 = .bool x108_29 ∧ Aside0 (pentaglotlaw43_BidiRuns.j3 kq y307 t310 t313 t316 x9_3 x10_3 ((rd_T38 t316 x10_3).f0) ((rd_T38 t316 x10_3).f1) x108_29 = some r) ∧ Aside0 (kq ≤ k3) ∧ Aside0 (Kd.R (Kd.int .i32) 21 wc w.heap.size (fun _ => True) v308 y307) ∧ Aside0 (Kd.R (Kd.int .i64) 3 wc w.heap.size (fun k_ => some k_ ≠ (v314 : Value).ownBlock) v311 t310) ∧ Aside0 (Kd.R (Kd.int .i64) 3 wc w.heap.size (fun k_ => some k_ ≠ (v311 : Value).ownBlock) v314 t313) ∧ Aside0 (Kd.R k38 38 wc w.heap.size (fun _ => True) (.slice (some ad320) t316.length co31) t316) ∧ Aside0 (Below w.heap.size w wc))
                        case first =>
                          have H := HC30.out
                          clear HC30
                          by_cases c32 : ((rd_T38 t316 x10_3).f0) < 0
                          · rw [if_pos c32] at H
                            have c32b0 : decide (((rd_T38 t316 x10_3).f0) < 0) = true := decide_eq_true c32
                            clear c32
                            (first | rw [c32b0] | (simp only [i64_w, i32_w]; rw [c32b0]) | skip)
                            have H' := Aside0.mk H
                            clear H
                            go_wp2
                            repeat (go_quiet (fail); try go_wp2)
                            go_meet
                            case rel => exact ⟨_, (true), (by first | rfl | (simp; done) | (simp [*]; done)), H', ⟨by have := HJ2.out; have := HJ14.out; have := HK3.out; first | omega | exact Nat.le_refl _⟩, ⟨by (with_reducible repeat (first | apply Kd.R_alloc | apply Kd.R_drewN | apply Kd.R_drew)); exact HO_5.out⟩, ⟨by (with_reducible repeat (first | apply Kd.R_alloc | apply Kd.R_drewN | apply Kd.R_drew)); exact HO_6.out⟩, ⟨by (with_reducible repeat (first | apply Kd.R_alloc | apply Kd.R_drewN | apply Kd.R_drew)); exact HO_7.out⟩, ⟨by (with_reducible repeat (first | apply Kd.R_alloc | apply Kd.R_drewN | apply Kd.R_drew)); exact HO_8.out⟩, ⟨by repeat (first | (with_reducible first | exact HB.out | apply below_alloc | apply pw_below_drewN | apply below_drew1) | exact HB.out)⟩⟩
                          · rw [if_neg c32] at H
                            have c32b0 : decide (((rd_T38 t316 x10_3).f0) < 0) = false := decide_eq_false c32
                            clear c32
                            (first | rw [c32b0] | (simp only [i64_w, i32_w]; rw [c32b0]) | skip)
                            by_cases c33 : ((rd_T38 t316 x10_3).f0) ≥ ((rd_T38 t316 x10_3).f1)
                            · rw [if_pos c33] at H
                              have c33b0 : decide (((rd_T38 t316 x10_3).f1) ≤ ((rd_T38 t316 x10_3).f0)) = true := decide_eq_true c33
                              clear c33
                              have H' := Aside0.mk H
                              clear H
                              go_wp2
                              repeat (go_quiet (fail); try go_wp2)
                              go_meet
                              case rel => exact ⟨_, (true), (by first | rfl | (simp; done) | (simp [*]; done)), H', ⟨by have := HJ2.out; have := HJ14.out; have := HK3.out; first | omega | exact Nat.le_refl _⟩, ⟨by (with_reducible repeat (first | apply Kd.R_alloc | apply Kd.R_drewN | apply Kd.R_drew)); exact HO_5.out⟩, ⟨by (with_reducible repeat (first | apply Kd.R_alloc | apply Kd.R_drewN | apply Kd.R_drew)); exact HO_6.out⟩, ⟨by (with_reducible repeat (first | apply Kd.R_alloc | apply Kd.R_drewN | apply Kd.R_drew)); exact HO_7.out⟩, ⟨by (with_reducible repeat (first | apply Kd.R_alloc | apply Kd.R_drewN | apply Kd.R_drew)); exact HO_8.out⟩, ⟨by repeat (first | (with_reducible first | exact HB.out | apply below_alloc | apply pw_below_drewN | apply below_drew1) | exact HB.out)⟩⟩
                            · rw [if_neg c33] at H
                              have c33b0 : decide (((rd_T38 t316 x10_3).f1) ≤ ((rd_T38 t316 x10_3).f0)) = false := decide_eq_false c33
                              clear c33
                              by_cases c34 : ((rd_T38 t316 x10_3).f1) > (y307.length : Int)
                              · rw [if_pos c34] at H
                                have c34b0 : decide ((y307.length : Int) < ((rd_T38 t316 x10_3).f1)) = true := decide_eq_true c34
                                clear c34
                                have H' := Aside0.mk H
                                clear H
                                obtain ⟨Ao35, co35, eo35⟩ := Kd.R_slice HO_5.out
                                subst eo35
                                go_wp2
                                repeat (go_quiet (fail); try go_wp2)
                                go_meet
                                case rel => exact ⟨_, (true), (by first | rfl | (simp; done) | (simp [*]; done)), H', ⟨by have := HJ2.out; have := HJ14.out; have := HK3.out; first | omega | exact Nat.le_refl _⟩, ⟨by (with_reducible repeat (first | apply Kd.R_alloc | apply Kd.R_drewN | apply Kd.R_drew)); exact HO_5.out⟩, ⟨by (with_reducible repeat (first | apply Kd.R_alloc | apply Kd.R_drewN | apply Kd.R_drew)); exact HO_6.out⟩, ⟨by (with_reducible repeat (first | apply Kd.R_alloc | apply Kd.R_drewN | apply Kd.R_drew)); exact HO_7.out⟩, ⟨by (with_reducible repeat (first | apply Kd.R_alloc | apply Kd.R_drewN | apply Kd.R_drew)); exact HO_8.out⟩, ⟨by repeat (first | (with_reducible first | exact HB.out | apply below_alloc | apply pw_below_drewN | apply below_drew1) | exact HB.out)⟩⟩
                              · rw [if_neg c34] at H
                                have c34b0 : decide ((y307.length : Int) < ((rd_T38 t316 x10_3).f1)) = false := decide_eq_false c34
                                clear c34
                                by_cases c36 : ((rd_T38 t316 x10_3).f0) > 0
                                · rw [if_pos c36] at H
                                  have c36b0 : decide (0 < ((rd_T38 t316 x10_3).f0)) = true := decide_eq_true c36
                                  clear c36
                                  obtain ⟨ji37, hji37⟩ : ∃ j_ : Int, (wrap64 (((rd_T38 t316 x10_3).f0) - 1)) = j_ := ⟨_, rfl⟩
                                  replace H : (if 0 ≤ (ji37) then (if (ji37) < (t310.length : Int) then (if 0 ≤ ((rd_T38 t316 x10_3).f0) then (if ((rd_T38 t316 x10_3).f0) < (t310.length : Int) then (if (rd t310 (ji37)) = (rd t310 ((rd_T38 t316 x10_3).f0)) then (pentaglotlaw43_BidiRuns.j3 k3 y307 t310 t313 t316 x9_3 x10_3 ((rd_T38 t316 x10_3).f0) ((rd_T38 t316 x10_3).f1) true) else (if ((rd_T38 t316 x10_3).f1) < (y307.length : Int) then (if 0 ≤ ((rd_T38 t316 x10_3).f1) then (if ((rd_T38 t316 x10_3).f1) < (t310.length : Int) then (pentaglotlaw43_BidiRuns.j3 k3 y307 t310 t313 t316 x9_3 x10_3 ((rd_T38 t316 x10_3).f0) ((rd_T38 t316 x10_3).f1) ((rd t310 ((rd_T38 t316 x10_3).f1)) == (rd t310 ((rd_T38 t316 x10_3).f0)))) else (none)) else (none)) else (pentaglotlaw43_BidiRuns.j3 k3 y307 t310 t313 t316 x9_3 x10_3 ((rd_T38 t316 x10_3).f0) ((rd_T38 t316 x10_3).f1) false))) else (none)) else (none)) else (none)) else (none)) = some r := by first | (rw [hji37] at H; exact H) | (simp only [hji37] at H ⊢; exact H)
                                  have hji37w : (IntKind.i64.wrap (((rd_T38 t316 x10_3).f0) - 1)) = ji37 := (i64_w _).trans hji37
                                  by_cases c38 : 0 ≤ (ji37)
                                  · rw [if_pos c38] at H
                                    have c38b0 : decide (0 ≤ (ji37)) = true := decide_eq_true c38
                                    clear c38
                                    by_cases c39 : (ji37) < (t310.length : Int)
                                    · rw [if_pos c39] at H
                                      have c39b0 : decide ((ji37) < (t310.length : Int)) = true := decide_eq_true c39
                                      clear c39
                                      by_cases c40 : 0 ≤ ((rd_T38 t316 x10_3).f0)
                                      · rw [if_pos c40] at H
                                        have c40b0 : decide (0 ≤ ((rd_T38 t316 x10_3).f0)) = true := decide_eq_true c40
                                        clear c40
                                        by_cases c41 : ((rd_T38 t316 x10_3).f0) < (t310.length : Int)
                                        · rw [if_pos c41] at H
                                          have c41b0 : decide (((rd_T38 t316 x10_3).f0) < (t310.length : Int)) = true := decide_eq_true c41
                                          clear c41
                                          by_cases c42 : (rd t310 (ji37)) = (rd t310 ((rd_T38 t316 x10_3).f0))
                                          · rw [if_pos c42] at H
                                            have c42b0 : ((rd t310 (ji37)) == (rd t310 ((rd_T38 t316 x10_3).f0))) = true := beq_iff_eq.mpr c42
                                            have c42b1 : ((rd t310 (ji37)) != (rd t310 ((rd_T38 t316 x10_3).f0))) = false := bne_eq_false_iff_eq.mpr c42
                                            clear c42
                                            have H' := Aside0.mk H
                                            clear H
                                            obtain ⟨Ao43, co43, eo43⟩ := Kd.R_slice HO_5.out
                                            subst eo43
                                            obtain ⟨Ao44, co44, eo44⟩ := Kd.R_slice HO_6.out
                                            subst eo44
                                            have p322 : 0 ≤ ((ji37) : Int) := of_decide_eq_true (by first | (with_reducible assumption) | assumption)
                                            have q322 : (ji37) < (t310.length : Int) := of_decide_eq_true (by first | (with_reducible assumption) | assumption)
                                            obtain ⟨ad322, e322, hx322_0⟩ := Kd.at_int (Kd.R_reads' HO_6.out).2.2 (ji37) p322 q322
                                            cases e322
                                            replace p322 := eq_true p322
                                            replace q322 := eq_true q322
                                            have p323 : 0 ≤ (((rd_T38 t316 x10_3).f0) : Int) := of_decide_eq_true (by first | (with_reducible assumption) | assumption)
                                            have q323 : ((rd_T38 t316 x10_3).f0) < (t310.length : Int) := of_decide_eq_true (by first | (with_reducible assumption) | assumption)
                                            obtain ⟨ad323, e323, hx323_0⟩ := Kd.at_int (Kd.R_reads' HO_6.out).2.2 ((rd_T38 t316 x10_3).f0) p323 q323
                                            obtain rfl : ad322 = ad323 := (by injection e323)
                                            replace p323 := eq_true p323
                                            replace q323 := eq_true q323
                                            go_wp2
                                            repeat (go_quiet (fail); try go_wp2)
                                            go_meet
                                            case rel => exact ⟨_, (true), (by first | rfl | (simp; done) | (simp [*]; done)), H', ⟨by have := HJ2.out; have := HJ14.out; have := HK3.out; first | omega | exact Nat.le_refl _⟩, ⟨by (with_reducible repeat (first | apply Kd.R_alloc | apply Kd.R_drewN | apply Kd.R_drew)); exact HO_5.out⟩, ⟨by (with_reducible repeat (first | apply Kd.R_alloc | apply Kd.R_drewN | apply Kd.R_drew)); exact HO_6.out⟩, ⟨by (with_reducible repeat (first | apply Kd.R_alloc | apply Kd.R_drewN | apply Kd.R_drew)); exact HO_7.out⟩, ⟨by (with_reducible repeat (first | apply Kd.R_alloc | apply Kd.R_drewN | apply Kd.R_drew)); exact HO_8.out⟩, ⟨by repeat (first | (with_reducible first | exact HB.out | apply below_alloc | apply pw_below_drewN | apply below_drew1) | exact HB.out)⟩⟩
                                          · rw [if_neg c42] at H
                                            have c42b0 : ((rd t310 (ji37)) == (rd t310 ((rd_T38 t316 x10_3).f0))) = false := beq_eq_false_iff_ne.mpr c42
                                            have c42b1 : ((rd t310 (ji37)) != (rd t310 ((rd_T38 t316 x10_3).f0))) = true := bne_iff_ne.mpr c42
                                            by_cases c45 : ((rd_T38 t316 x10_3).f1) < (y307.length : Int)
                                            · rw [if_pos c45] at H
                                              have c45b0 : decide (((rd_T38 t316 x10_3).f1) < (y307.length : Int)) = true := decide_eq_true c45
                                              clear c45
                                              by_cases c46 : 0 ≤ ((rd_T38 t316 x10_3).f1)
                                              · rw [if_pos c46] at H
                                                have c46b0 : decide (0 ≤ ((rd_T38 t316 x10_3).f1)) = true := decide_eq_true c46
                                                clear c46
                                                by_cases c47 : ((rd_T38 t316 x10_3).f1) < (t310.length : Int)
                                                · rw [if_pos c47] at H
                                                  have c47b0 : decide (((rd_T38 t316 x10_3).f1) < (t310.length : Int)) = true := decide_eq_true c47
                                                  clear c47
                                                  have H' := Aside0.mk H
                                                  clear H
                                                  obtain ⟨Ao48, co48, eo48⟩ := Kd.R_slice HO_5.out
                                                  subst eo48
                                                  obtain ⟨Ao49, co49, eo49⟩ := Kd.R_slice HO_6.out
                                                  subst eo49
                                                  have p322 : 0 ≤ ((ji37) : Int) := of_decide_eq_true (by first | (with_reducible assumption) | assumption)
                                                  have q322 : (ji37) < (t310.length : Int) := of_decide_eq_true (by first | (with_reducible assumption) | assumption)
                                                  obtain ⟨ad322, e322, hx322_0⟩ := Kd.at_int (Kd.R_reads' HO_6.out).2.2 (ji37) p322 q322
                                                  cases e322
                                                  replace p322 := eq_true p322
                                                  replace q322 := eq_true q322
                                                  have p323 : 0 ≤ (((rd_T38 t316 x10_3).f0) : Int) := of_decide_eq_true (by first | (with_reducible assumption) | assumption)
                                                  have q323 : ((rd_T38 t316 x10_3).f0) < (t310.length : Int) := of_decide_eq_true (by first | (with_reducible assumption) | assumption)
                                                  obtain ⟨ad323, e323, hx323_0⟩ := Kd.at_int (Kd.R_reads' HO_6.out).2.2 ((rd_T38 t316 x10_3).f0) p323 q323
                                                  obtain rfl : ad322 = ad323 := (by injection e323)
                                                  replace p323 := eq_true p323
                                                  replace q323 := eq_true q323
                                                  have p324 : 0 ≤ (((rd_T38 t316 x10_3).f1) : Int) := of_decide_eq_true (by first | (with_reducible assumption) | assumption)
                                                  have q324 : ((rd_T38 t316 x10_3).f1) < (t310.length : Int) := of_decide_eq_true (by first | (with_reducible assumption) | assumption)
                                                  obtain ⟨ad324, e324, hx324_0⟩ := Kd.at_int (Kd.R_reads' HO_6.out).2.2 ((rd_T38 t316 x10_3).f1) p324 q324
                                                  obtain rfl : ad322 = ad324 := (by injection e324)
                                                  replace p324 := eq_true p324
                                                  replace q324 := eq_true q324
                                                  have p325 : 0 ≤ (((rd_T38 t316 x10_3).f0) : Int) := of_decide_eq_true (by first | (with_reducible assumption) | assumption)
                                                  have q325 : ((rd_T38 t316 x10_3).f0) < (t310.length : Int) := of_decide_eq_true (by first | (with_reducible assumption) | assumption)
                                                  obtain ⟨ad325, e325, hx325_0⟩ := Kd.at_int (Kd.R_reads' HO_6.out).2.2 ((rd_T38 t316 x10_3).f0) p325 q325
                                                  obtain rfl : ad322 = ad325 := (by injection e325)
                                                  replace p325 := eq_true p325
                                                  replace q325 := eq_true q325
                                                  go_wp2
                                                  repeat (go_quiet (fail); try go_wp2)
                                                  go_meet
                                                  case rel => exact ⟨_, (((rd t310 ((rd_T38 t316 x10_3).f1)) == (rd t310 ((rd_T38 t316 x10_3).f0)))), (by first | rfl | (simp; done) | (simp [*]; done)), H', ⟨by have := HJ2.out; have := HJ14.out; have := HK3.out; first | omega | exact Nat.le_refl _⟩, ⟨by (with_reducible repeat (first | apply Kd.R_alloc | apply Kd.R_drewN | apply Kd.R_drew)); exact HO_5.out⟩, ⟨by (with_reducible repeat (first | apply Kd.R_alloc | apply Kd.R_drewN | apply Kd.R_drew)); exact HO_6.out⟩, ⟨by (with_reducible repeat (first | apply Kd.R_alloc | apply Kd.R_drewN | apply Kd.R_drew)); exact HO_7.out⟩, ⟨by (with_reducible repeat (first | apply Kd.R_alloc | apply Kd.R_drewN | apply Kd.R_drew)); exact HO_8.out⟩, ⟨by repeat (first | (with_reducible first | exact HB.out | apply below_alloc | apply pw_below_drewN | apply below_drew1) | exact HB.out)⟩⟩
                                                · rw [if_neg c47] at H
                                                  exact absurd H (by simp)
                                              · rw [if_neg c46] at H
                                                exact absurd H (by simp)
                                            · rw [if_neg c45] at H
                                              have c45b0 : decide (((rd_T38 t316 x10_3).f1) < (y307.length : Int)) = false := decide_eq_false c45
                                              clear c45
                                              have H' := Aside0.mk H
                                              clear H
                                              obtain ⟨Ao50, co50, eo50⟩ := Kd.R_slice HO_5.out
                                              subst eo50
                                              obtain ⟨Ao51, co51, eo51⟩ := Kd.R_slice HO_6.out
                                              subst eo51
                                              have p322 : 0 ≤ ((ji37) : Int) := of_decide_eq_true (by first | (with_reducible assumption) | assumption)
                                              have q322 : (ji37) < (t310.length : Int) := of_decide_eq_true (by first | (with_reducible assumption) | assumption)
                                              obtain ⟨ad322, e322, hx322_0⟩ := Kd.at_int (Kd.R_reads' HO_6.out).2.2 (ji37) p322 q322
                                              cases e322
                                              replace p322 := eq_true p322
                                              replace q322 := eq_true q322
                                              have p323 : 0 ≤ (((rd_T38 t316 x10_3).f0) : Int) := of_decide_eq_true (by first | (with_reducible assumption) | assumption)
                                              have q323 : ((rd_T38 t316 x10_3).f0) < (t310.length : Int) := of_decide_eq_true (by first | (with_reducible assumption) | assumption)
                                              obtain ⟨ad323, e323, hx323_0⟩ := Kd.at_int (Kd.R_reads' HO_6.out).2.2 ((rd_T38 t316 x10_3).f0) p323 q323
                                              obtain rfl : ad322 = ad323 := (by injection e323)
                                              replace p323 := eq_true p323
                                              replace q323 := eq_true q323
                                              go_wp2
                                              repeat (go_quiet (fail); try go_wp2)
                                              go_meet
                                              case rel => exact ⟨_, (false), (by first | rfl | (simp; done) | (simp [*]; done)), H', ⟨by have := HJ2.out; have := HJ14.out; have := HK3.out; first | omega | exact Nat.le_refl _⟩, ⟨by (with_reducible repeat (first | apply Kd.R_alloc | apply Kd.R_drewN | apply Kd.R_drew)); exact HO_5.out⟩, ⟨by (with_reducible repeat (first | apply Kd.R_alloc | apply Kd.R_drewN | apply Kd.R_drew)); exact HO_6.out⟩, ⟨by (with_reducible repeat (first | apply Kd.R_alloc | apply Kd.R_drewN | apply Kd.R_drew)); exact HO_7.out⟩, ⟨by (with_reducible repeat (first | apply Kd.R_alloc | apply Kd.R_drewN | apply Kd.R_drew)); exact HO_8.out⟩, ⟨by repeat (first | (with_reducible first | exact HB.out | apply below_alloc | apply pw_below_drewN | apply below_drew1) | exact HB.out)⟩⟩
                                        · rw [if_neg c41] at H
                                          exact absurd H (by simp)
                                      · rw [if_neg c40] at H
                                        exact absurd H (by simp)
                                    · rw [if_neg c39] at H
                                      exact absurd H (by simp)
                                  · rw [if_neg c38] at H
                                    exact absurd H (by simp)
                                · rw [if_neg c36] at H
                                  have c36b0 : decide (0 < ((rd_T38 t316 x10_3).f0)) = false := decide_eq_false c36
                                  clear c36
                                  by_cases c52 : ((rd_T38 t316 x10_3).f1) < (y307.length : Int)
                                  · rw [if_pos c52] at H
                                    have c52b0 : decide (((rd_T38 t316 x10_3).f1) < (y307.length : Int)) = true := decide_eq_true c52
                                    clear c52
                                    by_cases c53 : 0 ≤ ((rd_T38 t316 x10_3).f1)
                                    · rw [if_pos c53] at H
                                      have c53b0 : decide (0 ≤ ((rd_T38 t316 x10_3).f1)) = true := decide_eq_true c53
                                      clear c53
                                      by_cases c54 : ((rd_T38 t316 x10_3).f1) < (t310.length : Int)
                                      · rw [if_pos c54] at H
                                        have c54b0 : decide (((rd_T38 t316 x10_3).f1) < (t310.length : Int)) = true := decide_eq_true c54
                                        clear c54
                                        by_cases c55 : 0 ≤ ((rd_T38 t316 x10_3).f0)
                                        · rw [if_pos c55] at H
                                          have c55b0 : decide (0 ≤ ((rd_T38 t316 x10_3).f0)) = true := decide_eq_true c55
                                          clear c55
                                          by_cases c56 : ((rd_T38 t316 x10_3).f0) < (t310.length : Int)
                                          · rw [if_pos c56] at H
                                            have c56b0 : decide (((rd_T38 t316 x10_3).f0) < (t310.length : Int)) = true := decide_eq_true c56
                                            clear c56
                                            have H' := Aside0.mk H
                                            clear H
                                            obtain ⟨Ao57, co57, eo57⟩ := Kd.R_slice HO_5.out
                                            subst eo57
                                            obtain ⟨Ao58, co58, eo58⟩ := Kd.R_slice HO_6.out
                                            subst eo58
                                            have p326 : 0 ≤ (((rd_T38 t316 x10_3).f1) : Int) := of_decide_eq_true (by first | (with_reducible assumption) | assumption)
                                            have q326 : ((rd_T38 t316 x10_3).f1) < (t310.length : Int) := of_decide_eq_true (by first | (with_reducible assumption) | assumption)
                                            obtain ⟨ad326, e326, hx326_0⟩ := Kd.at_int (Kd.R_reads' HO_6.out).2.2 ((rd_T38 t316 x10_3).f1) p326 q326
                                            cases e326
                                            replace p326 := eq_true p326
                                            replace q326 := eq_true q326
                                            have p327 : 0 ≤ (((rd_T38 t316 x10_3).f0) : Int) := of_decide_eq_true (by first | (with_reducible assumption) | assumption)
                                            have q327 : ((rd_T38 t316 x10_3).f0) < (t310.length : Int) := of_decide_eq_true (by first | (with_reducible assumption) | assumption)
                                            obtain ⟨ad327, e327, hx327_0⟩ := Kd.at_int (Kd.R_reads' HO_6.out).2.2 ((rd_T38 t316 x10_3).f0) p327 q327
                                            obtain rfl : ad326 = ad327 := (by injection e327)
                                            replace p327 := eq_true p327
                                            replace q327 := eq_true q327
                                            go_wp2
                                            repeat (go_quiet (fail); try go_wp2)
                                            go_meet
                                            case rel => exact ⟨_, (((rd t310 ((rd_T38 t316 x10_3).f1)) == (rd t310 ((rd_T38 t316 x10_3).f0)))), (by first | rfl | (simp; done) | (simp [*]; done)), H', ⟨by have := HJ2.out; have := HJ14.out; have := HK3.out; first | omega | exact Nat.le_refl _⟩, ⟨by (with_reducible repeat (first | apply Kd.R_alloc | apply Kd.R_drewN | apply Kd.R_drew)); exact HO_5.out⟩, ⟨by (with_reducible repeat (first | apply Kd.R_alloc | apply Kd.R_drewN | apply Kd.R_drew)); exact HO_6.out⟩, ⟨by (with_reducible repeat (first | apply Kd.R_alloc | apply Kd.R_drewN | apply Kd.R_drew)); exact HO_7.out⟩, ⟨by (with_reducible repeat (first | apply Kd.R_alloc | apply Kd.R_drewN | apply Kd.R_drew)); exact HO_8.out⟩, ⟨by repeat (first | (with_reducible first | exact HB.out | apply below_alloc | apply pw_below_drewN | apply below_drew1) | exact HB.out)⟩⟩
                                          · rw [if_neg c56] at H
                                            exact absurd H (by simp)
                                        · rw [if_neg c55] at H
                                          exact absurd H (by simp)
                                      · rw [if_neg c54] at H
                                        exact absurd H (by simp)
                                    · rw [if_neg c53] at H
                                      exact absurd H (by simp)
                                  · rw [if_neg c52] at H
                                    have c52b0 : decide (((rd_T38 t316 x10_3).f1) < (y307.length : Int)) = false := decide_eq_false c52
                                    clear c52
                                    have H' := Aside0.mk H
                                    clear H
                                    obtain ⟨Ao59, co59, eo59⟩ := Kd.R_slice HO_5.out
                                    subst eo59
                                    go_wp2
                                    repeat (go_quiet (fail); try go_wp2)
                                    go_meet
                                    case rel => exact ⟨_, (false), (by first | rfl | (simp; done) | (simp [*]; done)), H', ⟨by have := HJ2.out; have := HJ14.out; have := HK3.out; first | omega | exact Nat.le_refl _⟩, ⟨by (with_reducible repeat (first | apply Kd.R_alloc | apply Kd.R_drewN | apply Kd.R_drew)); exact HO_5.out⟩, ⟨by (with_reducible repeat (first | apply Kd.R_alloc | apply Kd.R_drewN | apply Kd.R_drew)); exact HO_6.out⟩, ⟨by (with_reducible repeat (first | apply Kd.R_alloc | apply Kd.R_drewN | apply Kd.R_drew)); exact HO_7.out⟩, ⟨by (with_reducible repeat (first | apply Kd.R_alloc | apply Kd.R_drewN | apply Kd.R_drew)); exact HO_8.out⟩, ⟨by repeat (first | (with_reducible first | exact HB.out | apply below_alloc | apply pw_below_drewN | apply below_drew1) | exact HB.out)⟩⟩
                        case rest =>
                          clear HC30
                          try clear c1
                          try clear c2
                          try clear p2
                          try clear c3
                          try clear p3
                          try clear q3
                          try clear hx3
                          try clear c4
                          try clear c5
                          try clear p6
                          try clear c8
                          try clear c11
                          try clear c11b0
                          try clear c11b1
                          try clear c21
                          try clear c21b0
                          try clear c21b1
                          try clear c21b2
                          try clear c27
                          try clear c28
                          try clear c28b0
                          try clear c29
                          try clear c29b0
                          try clear c32
                          try clear c32b0
                          try clear p32
                          try clear q32
                          try clear hx32
                          try clear c33
                          try clear c33b0
                          try clear c34
                          try clear c34b0
                          try clear c36
                          try clear c36b0
                          try clear c38
                          try clear c38b0
                          try clear c39
                          try clear c39b0
                          try clear c40
                          try clear c40b0
                          try clear c41
                          try clear c41b0
                          try clear c42
                          try clear c42b0
                          try clear c42b1
                          try clear c45
                          try clear c45b0
                          try clear c46
                          try clear c46b0
                          try clear c47
                          try clear c47b0
                          try clear c52
                          try clear c52b0
                          try clear c53
                          try clear c53b0
                          try clear c54
                          try clear c54b0
                          try clear c55
                          try clear c55b0
                          try clear c56
                          try clear c56b0
                          try clear hx320_0
                          try clear hx320_1
                          try clear hx321_0
                          try clear hx321_1
                          try clear hx322_0
                          try clear hx323_0
                          try clear hx324_0
                          try clear hx325_0
                          try clear hx326_0
                          try clear hx327_0
                          try clear p2
                          try clear p320
                          try clear p321
                          try clear p322
                          try clear p323
                          try clear p324
                          try clear p325
                          try clear p326
                          try clear p327
                          try clear q320
                          try clear q321
                          try clear q322
                          try clear q323
                          try clear q324
                          try clear q325
                          try clear q326
                          try clear q327
                          obtain ⟨kq, x108_29, rfl, HA, HJ29, HO_5, HO_6, HO_7, HO_8, HB⟩ := hcut
                          cases kq with
                          | zero => exact absurd HA.out (by simp [pentaglotlaw43_BidiRuns.j3])
                          | succ kj29 =>
                            have H := HA.out
                            clear HA
                            simp only [pentaglotlaw43_BidiRuns.j3] at H
                            by_cases c60 : x108_29 = true
                            · subst c60
                              have H1 : (some false) = some r := by rw [if_pos rfl] at H; exact H
                              clear H
                              have H := H1
                              clear H1
                              obtain rfl := Option.some.inj H
                              go_wp2
                              repeat (go_quiet (fail); try go_wp2)
                              go_ret
                              exact ⟨by first | rfl | (simp [errW_none, errW_some] <;> rfl) | (simp [*, errW_none, errW_some] <;> rfl), by repeat (first | (with_reducible first | exact HB.out | apply below_alloc | apply pw_below_drewN | apply below_drew1) | exact HB.out)⟩
                            · replace c60 := Bool.eq_false_iff.mpr c60
                              subst c60
                              have H1 : (pentaglotlaw43_BidiRuns.l1 kj29 y307 t310 t313 t316 x9_3 x10_3 ((rd_T38 t316 x10_3).f0) ((rd_T38 t316 x10_3).f1) ((rd_T38 t316 x10_3).f0)) = some r := by rw [if_neg (show ¬ (false = true) by decide)] at H; exact H
                              clear H
                              have H := H1
                              clear H1
                              have H' := Aside0.mk H
                              clear H
                              go_wp2
                              repeat (go_quiet (fail); try go_wp2)
                              go_loopg [9, 13] kj29 (fun kq v9 v13 w' => ∃ (x9_5 : Int) (x13_5 : Int), v9 = .int .i64 x9_5 ∧ v13 = .int .i64 x13_5 ∧ Aside0 (pentaglotlaw43_BidiRuns.l1 kq y307 t310 t313 t316 x9_5 x10_3 ((rd_T38 t316 x10_3).f0) ((rd_T38 t316 x10_3).f1) x13_5 = some r) ∧ Aside0 (kq ≤ kj29) ∧ Aside0 (Kd.R (Kd.int .i32) 21 w' w.heap.size (fun _ => True) v308 y307) ∧ Aside0 (Kd.R (Kd.int .i64) 3 w' w.heap.size (fun k_ => some k_ ≠ (v314 : Value).ownBlock) v311 t310) ∧ Aside0 (Kd.R (Kd.int .i64) 3 w' w.heap.size (fun k_ => some k_ ≠ (v311 : Value).ownBlock) v314 t313) ∧ Aside0 (Kd.R k38 38 w' w.heap.size (fun _ => True) (.slice (some ad320) t316.length co31) t316) ∧ Aside0 (Below w.heap.size w w'))
                              case atStart => exact ⟨(x9_3), (((rd_T38 t316 x10_3).f0)), (by first | rfl | (simp; done) | (simp [*]; done)), (by first | rfl | (simp; done) | (simp [*]; done)), H', ⟨Nat.le_refl _⟩, ⟨by (with_reducible repeat (first | apply Kd.R_alloc | apply Kd.R_drewN | apply Kd.R_drew)); exact HO_5.out⟩, ⟨by (with_reducible repeat (first | apply Kd.R_alloc | apply Kd.R_drewN | apply Kd.R_drew)); exact HO_6.out⟩, ⟨by (with_reducible repeat (first | apply Kd.R_alloc | apply Kd.R_drewN | apply Kd.R_drew)); exact HO_7.out⟩, ⟨by (with_reducible repeat (first | apply Kd.R_alloc | apply Kd.R_drewN | apply Kd.R_drew)); exact HO_8.out⟩, ⟨by repeat (first | (with_reducible first | exact HB.out | apply below_alloc | apply pw_below_drewN | apply below_drew1) | exact HB.out)⟩⟩
                              case round =>
                                clear H'
                                try clear c1
                                try clear c2
                                try clear p2
                                try clear c3
                                try clear p3
                                try clear q3
                                try clear hx3
                                try clear c4
                                try clear c5
                                try clear c6
                                try clear p6
                                try clear c8
                                try clear c11
                                try clear c11b0
                                try clear c11b1
                                try clear c21
                                try clear c21b0
                                try clear c21b1
                                try clear c21b2
                                try clear c27
                                try clear c28
                                try clear c28b0
                                try clear c29
                                try clear c29b0
                                try clear c32
                                try clear c32b0
                                try clear p32
                                try clear q32
                                try clear hx32
                                try clear c33
                                try clear c33b0
                                try clear c34
                                try clear c34b0
                                try clear c36
                                try clear c36b0
                                try clear c38
                                try clear c38b0
                                try clear c39
                                try clear c39b0
                                try clear c40
                                try clear c40b0
                                try clear c41
                                try clear c41b0
                                try clear c42
                                try clear c42b0
                                try clear c42b1
                                try clear c45
                                try clear c45b0
                                try clear c46
                                try clear c46b0
                                try clear c47
                                try clear c47b0
                                try clear c52
                                try clear c52b0
                                try clear c53
                                try clear c53b0
                                try clear c54
                                try clear c54b0
                                try clear c55
                                try clear c55b0
                                try clear c56
                                try clear c56b0
                                try clear c60
                                try clear hx320_0
                                try clear hx320_1
                                try clear hx321_0
                                try clear hx321_1
                                try clear hx322_0
                                try clear hx323_0
                                try clear hx324_0
                                try clear hx325_0
                                try clear hx326_0
                                try clear hx327_0
                                try clear p2
                                try clear p3
                                try clear p32
                                try clear p320
                                try clear p321
                                try clear p322
                                try clear p323
                                try clear p324
                                try clear p325
                                try clear p326
                                try clear p327
                                try clear p6
                                try clear q3
                                try clear q32
                                try clear q320
                                try clear q321
                                try clear q322
                                try clear q323
                                try clear q324
                                try clear q325
                                try clear q326
                                try clear q327
                                obtain ⟨x9_5, x13_5, rfl, rfl, HA, HK5, HO_5, HO_6, HO_7, HO_8, HB⟩ := hrel
                                cases gk with
                                | zero => exact absurd HA.out (by simp [pentaglotlaw43_BidiRuns.l1])
                                | succ k5 =>
                                  have H := HA.out
                                  clear HA
                                  simp only [pentaglotlaw43_BidiRuns.l1] at H
                                  by_cases c61 : x13_5 < ((rd_T38 t316 x10_3).f1)
                                  · rw [if_pos c61] at H
                                    have c61b0 : decide (x13_5 < ((rd_T38 t316 x10_3).f1)) = true := decide_eq_true c61
                                    clear c61
                                    by_cases c62 : 0 ≤ ((rd_T38 t316 x10_3).f0)
                                    · rw [if_pos c62] at H
                                      have c62b0 : decide (0 ≤ ((rd_T38 t316 x10_3).f0)) = true := decide_eq_true c62
                                      clear c62
                                      by_cases c63 : ((rd_T38 t316 x10_3).f0) < (t310.length : Int)
                                      · rw [if_pos c63] at H
                                        have c63b0 : decide (((rd_T38 t316 x10_3).f0) < (t310.length : Int)) = true := decide_eq_true c63
                                        clear c63
                                        by_cases c64 : (Int.tmod (rd t310 ((rd_T38 t316 x10_3).f0)) 2) = 1
                                        · rw [if_pos c64] at H
                                          have c64b0 : ((Int.tmod (rd t310 ((rd_T38 t316 x10_3).f0)) 2) == 1) = true := beq_iff_eq.mpr c64
                                          have c64b1 : ((Int.tmod (rd t310 ((rd_T38 t316 x10_3).f0)) 2) != 1) = false := bne_eq_false_iff_eq.mpr c64
                                          clear c64
                                          by_cases c65 : 0 ≤ x13_5
                                          · rw [if_pos c65] at H
                                            have c65b0 : decide (0 ≤ x13_5) = true := decide_eq_true c65
                                            clear c65
                                            by_cases c66 : x13_5 < (t310.length : Int)
                                            · rw [if_pos c66] at H
                                              have c66b0 : decide (x13_5 < (t310.length : Int)) = true := decide_eq_true c66
                                              clear c66
                                              by_cases c67 : (rd t310 x13_5) = (rd t310 ((rd_T38 t316 x10_3).f0))
                                              · rw [if_pos c67] at H
                                                have c67b0 : ((rd t310 x13_5) == (rd t310 ((rd_T38 t316 x10_3).f0))) = true := beq_iff_eq.mpr c67
                                                have c67b1 : ((rd t310 x13_5) != (rd t310 ((rd_T38 t316 x10_3).f0))) = false := bne_eq_false_iff_eq.mpr c67
                                                clear c67
                                                by_cases c68 : x9_5 ≥ (t313.length : Int)
                                                · rw [if_pos c68] at H
                                                  have c68b0 : decide ((t313.length : Int) ≤ x9_5) = true := decide_eq_true c68
                                                  clear c68
                                                  obtain rfl := Option.some.inj H
                                                  obtain ⟨Ao69, co69, eo69⟩ := Kd.R_slice HO_6.out
                                                  subst eo69
                                                  have p328 : 0 ≤ (((rd_T38 t316 x10_3).f0) : Int) := of_decide_eq_true (by first | (with_reducible assumption) | assumption)
                                                  have q328 : ((rd_T38 t316 x10_3).f0) < (t310.length : Int) := of_decide_eq_true (by first | (with_reducible assumption) | assumption)
                                                  obtain ⟨ad328, e328, hx328_0⟩ := Kd.at_int (Kd.R_reads' HO_6.out).2.2 ((rd_T38 t316 x10_3).f0) p328 q328
                                                  cases e328
                                                  replace p328 := eq_true p328
                                                  replace q328 := eq_true q328
                                                  have p329 : 0 ≤ (x13_5 : Int) := of_decide_eq_true (by first | (with_reducible assumption) | assumption)
                                                  have q329 : x13_5 < (t310.length : Int) := of_decide_eq_true (by first | (with_reducible assumption) | assumption)
                                                  obtain ⟨ad329, e329, hx329_0⟩ := Kd.at_int (Kd.R_reads' HO_6.out).2.2 x13_5 p329 q329
                                                  obtain rfl : ad328 = ad329 := (by injection e329)
                                                  replace p329 := eq_true p329
                                                  replace q329 := eq_true q329
                                                  have p330 : 0 ≤ (((rd_T38 t316 x10_3).f0) : Int) := of_decide_eq_true (by first | (with_reducible assumption) | assumption)
                                                  have q330 : ((rd_T38 t316 x10_3).f0) < (t310.length : Int) := of_decide_eq_true (by first | (with_reducible assumption) | assumption)
                                                  obtain ⟨ad330, e330, hx330_0⟩ := Kd.at_int (Kd.R_reads' HO_6.out).2.2 ((rd_T38 t316 x10_3).f0) p330 q330
                                                  obtain rfl : ad328 = ad330 := (by injection e330)
                                                  replace p330 := eq_true p330
                                                  replace q330 := eq_true q330
                                                  obtain ⟨Ao70, co70, eo70⟩ := Kd.R_slice HO_7.out
                                                  subst eo70
                                                  go_wp2
                                                  repeat (go_quiet (fail); try go_wp2)
                                                  go_ret
                                                  exact ⟨by first | rfl | (simp [errW_none, errW_some] <;> rfl) | (simp [*, errW_none, errW_some] <;> rfl), by repeat (first | (with_reducible first | exact HB.out | apply below_alloc | apply pw_below_drewN | apply below_drew1) | exact HB.out)⟩
                                                · rw [if_neg c68] at H
                                                  have c68b0 : decide ((t313.length : Int) ≤ x9_5) = false := decide_eq_false c68
                                                  clear c68
                                                  by_cases c71 : 0 ≤ x9_5
                                                  · rw [if_pos c71] at H
                                                    have c71b0 : decide (0 ≤ x9_5) = true := decide_eq_true c71
                                                    clear c71
                                                    by_cases c72 : x9_5 < (t313.length : Int)
                                                    · rw [if_pos c72] at H
                                                      have c72b0 : decide (x9_5 < (t313.length : Int)) = true := decide_eq_true c72
                                                      clear c72
                                                      by_cases c73 : (rd t313 x9_5) = (wrap64 ((wrap64 (((rd_T38 t316 x10_3).f1) - 1)) - (wrap64 (x13_5 - ((rd_T38 t316 x10_3).f0)))))
                                                      · rw [if_pos c73] at H
                                                        have c73b0 : ((rd t313 x9_5) == (wrap64 ((wrap64 (((rd_T38 t316 x10_3).f1) - 1)) - (wrap64 (x13_5 - ((rd_T38 t316 x10_3).f0)))))) = true := beq_iff_eq.mpr c73
                                                        have c73b1 : ((rd t313 x9_5) != (wrap64 ((wrap64 (((rd_T38 t316 x10_3).f1) - 1)) - (wrap64 (x13_5 - ((rd_T38 t316 x10_3).f0)))))) = false := bne_eq_false_iff_eq.mpr c73
                                                        clear c73
                                                        have H' := Aside0.mk H
                                                        clear H
                                                        obtain ⟨Ao74, co74, eo74⟩ := Kd.R_slice HO_6.out
                                                        subst eo74
                                                        have p328 : 0 ≤ (((rd_T38 t316 x10_3).f0) : Int) := of_decide_eq_true (by first | (with_reducible assumption) | assumption)
                                                        have q328 : ((rd_T38 t316 x10_3).f0) < (t310.length : Int) := of_decide_eq_true (by first | (with_reducible assumption) | assumption)
                                                        obtain ⟨ad328, e328, hx328_0⟩ := Kd.at_int (Kd.R_reads' HO_6.out).2.2 ((rd_T38 t316 x10_3).f0) p328 q328
                                                        cases e328
                                                        replace p328 := eq_true p328
                                                        replace q328 := eq_true q328
                                                        have p329 : 0 ≤ (x13_5 : Int) := of_decide_eq_true (by first | (with_reducible assumption) | assumption)
                                                        have q329 : x13_5 < (t310.length : Int) := of_decide_eq_true (by first | (with_reducible assumption) | assumption)
                                                        obtain ⟨ad329, e329, hx329_0⟩ := Kd.at_int (Kd.R_reads' HO_6.out).2.2 x13_5 p329 q329
                                                        obtain rfl : ad328 = ad329 := (by injection e329)
                                                        replace p329 := eq_true p329
                                                        replace q329 := eq_true q329
                                                        have p330 : 0 ≤ (((rd_T38 t316 x10_3).f0) : Int) := of_decide_eq_true (by first | (with_reducible assumption) | assumption)
                                                        have q330 : ((rd_T38 t316 x10_3).f0) < (t310.length : Int) := of_decide_eq_true (by first | (with_reducible assumption) | assumption)
                                                        obtain ⟨ad330, e330, hx330_0⟩ := Kd.at_int (Kd.R_reads' HO_6.out).2.2 ((rd_T38 t316 x10_3).f0) p330 q330
                                                        obtain rfl : ad328 = ad330 := (by injection e330)
                                                        replace p330 := eq_true p330
                                                        replace q330 := eq_true q330
                                                        obtain ⟨Ao75, co75, eo75⟩ := Kd.R_slice HO_7.out
                                                        subst eo75
                                                        have p331 : 0 ≤ (x9_5 : Int) := of_decide_eq_true (by first | (with_reducible assumption) | assumption)
                                                        have q331 : x9_5 < (t313.length : Int) := of_decide_eq_true (by first | (with_reducible assumption) | assumption)
                                                        obtain ⟨ad331, e331, hx331_0⟩ := Kd.at_int (Kd.R_reads' HO_7.out).2.2 x9_5 p331 q331
                                                        cases e331
                                                        replace p331 := eq_true p331
                                                        replace q331 := eq_true q331
                                                        go_wp2
                                                        repeat (go_quiet (fail); try go_wp2)
                                                        go_roundg k5
                                                        case measure => have := HJ2.out; have := HJ14.out; have := HK3.out; have := HJ29.out; have := HK5.out; omega
                                                        case rel => exact ⟨(wrap64 (x9_5 + 1)), (wrap64 (x13_5 + 1)), (by first | rfl | (simp; done) | (simp [*]; done)), (by first | rfl | (simp; done) | (simp [*]; done)), H', ⟨by have := HJ2.out; have := HJ14.out; have := HK3.out; have := HJ29.out; have := HK5.out; omega⟩, ⟨by (with_reducible repeat (first | apply Kd.R_alloc | apply Kd.R_drewN | apply Kd.R_drew)); exact HO_5.out⟩, ⟨by (with_reducible repeat (first | apply Kd.R_alloc | apply Kd.R_drewN | apply Kd.R_drew)); exact HO_6.out⟩, ⟨by (with_reducible repeat (first | apply Kd.R_alloc | apply Kd.R_drewN | apply Kd.R_drew)); exact HO_7.out⟩, ⟨by (with_reducible repeat (first | apply Kd.R_alloc | apply Kd.R_drewN | apply Kd.R_drew)); exact HO_8.out⟩, ⟨by repeat (first | (with_reducible first | exact HB.out | apply below_alloc | apply pw_below_drewN | apply below_drew1) | exact HB.out)⟩⟩
                                                      · rw [if_neg c73] at H
                                                        have c73b0 : ((rd t313 x9_5) == (wrap64 ((wrap64 (((rd_T38 t316 x10_3).f1) - 1)) - (wrap64 (x13_5 - ((rd_T38 t316 x10_3).f0)))))) = false := beq_eq_false_iff_ne.mpr c73
                                                        have c73b1 : ((rd t313 x9_5) != (wrap64 ((wrap64 (((rd_T38 t316 x10_3).f1) - 1)) - (wrap64 (x13_5 - ((rd_T38 t316 x10_3).f0)))))) = true := bne_iff_ne.mpr c73
                                                        obtain rfl := Option.some.inj H
                                                        obtain ⟨Ao76, co76, eo76⟩ := Kd.R_slice HO_6.out
                                                        subst eo76
                                                        have p328 : 0 ≤ (((rd_T38 t316 x10_3).f0) : Int) := of_decide_eq_true (by first | (with_reducible assumption) | assumption)
                                                        have q328 : ((rd_T38 t316 x10_3).f0) < (t310.length : Int) := of_decide_eq_true (by first | (with_reducible assumption) | assumption)
                                                        obtain ⟨ad328, e328, hx328_0⟩ := Kd.at_int (Kd.R_reads' HO_6.out).2.2 ((rd_T38 t316 x10_3).f0) p328 q328
                                                        cases e328
                                                        replace p328 := eq_true p328
                                                        replace q328 := eq_true q328
                                                        have p329 : 0 ≤ (x13_5 : Int) := of_decide_eq_true (by first | (with_reducible assumption) | assumption)
                                                        have q329 : x13_5 < (t310.length : Int) := of_decide_eq_true (by first | (with_reducible assumption) | assumption)
                                                        obtain ⟨ad329, e329, hx329_0⟩ := Kd.at_int (Kd.R_reads' HO_6.out).2.2 x13_5 p329 q329
                                                        obtain rfl : ad328 = ad329 := (by injection e329)
                                                        replace p329 := eq_true p329
                                                        replace q329 := eq_true q329
                                                        have p330 : 0 ≤ (((rd_T38 t316 x10_3).f0) : Int) := of_decide_eq_true (by first | (with_reducible assumption) | assumption)
                                                        have q330 : ((rd_T38 t316 x10_3).f0) < (t310.length : Int) := of_decide_eq_true (by first | (with_reducible assumption) | assumption)
                                                        obtain ⟨ad330, e330, hx330_0⟩ := Kd.at_int (Kd.R_reads' HO_6.out).2.2 ((rd_T38 t316 x10_3).f0) p330 q330
                                                        obtain rfl : ad328 = ad330 := (by injection e330)
                                                        replace p330 := eq_true p330
                                                        replace q330 := eq_true q330
                                                        obtain ⟨Ao77, co77, eo77⟩ := Kd.R_slice HO_7.out
                                                        subst eo77
                                                        have p331 : 0 ≤ (x9_5 : Int) := of_decide_eq_true (by first | (with_reducible assumption) | assumption)
                                                        have q331 : x9_5 < (t313.length : Int) := of_decide_eq_true (by first | (with_reducible assumption) | assumption)
                                                        obtain ⟨ad331, e331, hx331_0⟩ := Kd.at_int (Kd.R_reads' HO_7.out).2.2 x9_5 p331 q331
                                                        cases e331
                                                        replace p331 := eq_true p331
                                                        replace q331 := eq_true q331
                                                        go_wp2
                                                        repeat (go_quiet (fail); try go_wp2)
                                                        go_ret
                                                        exact ⟨by first | rfl | (simp [errW_none, errW_some] <;> rfl) | (simp [*, errW_none, errW_some] <;> rfl), by repeat (first | (with_reducible first | exact HB.out | apply below_alloc | apply pw_below_drewN | apply below_drew1) | exact HB.out)⟩
                                                    · rw [if_neg c72] at H
                                                      exact absurd H (by simp)
                                                  · rw [if_neg c71] at H
                                                    exact absurd H (by simp)
                                              · rw [if_neg c67] at H
                                                have c67b0 : ((rd t310 x13_5) == (rd t310 ((rd_T38 t316 x10_3).f0))) = false := beq_eq_false_iff_ne.mpr c67
                                                have c67b1 : ((rd t310 x13_5) != (rd t310 ((rd_T38 t316 x10_3).f0))) = true := bne_iff_ne.mpr c67
                                                obtain rfl := Option.some.inj H
                                                obtain ⟨Ao78, co78, eo78⟩ := Kd.R_slice HO_6.out
                                                subst eo78
                                                have p328 : 0 ≤ (((rd_T38 t316 x10_3).f0) : Int) := of_decide_eq_true (by first | (with_reducible assumption) | assumption)
                                                have q328 : ((rd_T38 t316 x10_3).f0) < (t310.length : Int) := of_decide_eq_true (by first | (with_reducible assumption) | assumption)
                                                obtain ⟨ad328, e328, hx328_0⟩ := Kd.at_int (Kd.R_reads' HO_6.out).2.2 ((rd_T38 t316 x10_3).f0) p328 q328
                                                cases e328
                                                replace p328 := eq_true p328
                                                replace q328 := eq_true q328
                                                have p329 : 0 ≤ (x13_5 : Int) := of_decide_eq_true (by first | (with_reducible assumption) | assumption)
                                                have q329 : x13_5 < (t310.length : Int) := of_decide_eq_true (by first | (with_reducible assumption) | assumption)
                                                obtain ⟨ad329, e329, hx329_0⟩ := Kd.at_int (Kd.R_reads' HO_6.out).2.2 x13_5 p329 q329
                                                obtain rfl : ad328 = ad329 := (by injection e329)
                                                replace p329 := eq_true p329
                                                replace q329 := eq_true q329
                                                have p330 : 0 ≤ (((rd_T38 t316 x10_3).f0) : Int) := of_decide_eq_true (by first | (with_reducible assumption) | assumption)
                                                have q330 : ((rd_T38 t316 x10_3).f0) < (t310.length : Int) := of_decide_eq_true (by first | (with_reducible assumption) | assumption)
                                                obtain ⟨ad330, e330, hx330_0⟩ := Kd.at_int (Kd.R_reads' HO_6.out).2.2 ((rd_T38 t316 x10_3).f0) p330 q330
                                                obtain rfl : ad328 = ad330 := (by injection e330)
                                                replace p330 := eq_true p330
                                                replace q330 := eq_true q330
                                                go_wp2
                                                repeat (go_quiet (fail); try go_wp2)
                                                go_ret
                                                exact ⟨by first | rfl | (simp [errW_none, errW_some] <;> rfl) | (simp [*, errW_none, errW_some] <;> rfl), by repeat (first | (with_reducible first | exact HB.out | apply below_alloc | apply pw_below_drewN | apply below_drew1) | exact HB.out)⟩
                                            · rw [if_neg c66] at H
                                              exact absurd H (by simp)
                                          · rw [if_neg c65] at H
                                            exact absurd H (by simp)
                                        · rw [if_neg c64] at H
                                          have c64b0 : ((Int.tmod (rd t310 ((rd_T38 t316 x10_3).f0)) 2) == 1) = false := beq_eq_false_iff_ne.mpr c64
                                          have c64b1 : ((Int.tmod (rd t310 ((rd_T38 t316 x10_3).f0)) 2) != 1) = true := bne_iff_ne.mpr c64
                                          by_cases c79 : 0 ≤ x13_5
                                          · rw [if_pos c79] at H
                                            have c79b0 : decide (0 ≤ x13_5) = true := decide_eq_true c79
                                            clear c79
                                            by_cases c80 : x13_5 < (t310.length : Int)
                                            · rw [if_pos c80] at H
                                              have c80b0 : decide (x13_5 < (t310.length : Int)) = true := decide_eq_true c80
                                              clear c80
                                              by_cases c81 : (rd t310 x13_5) = (rd t310 ((rd_T38 t316 x10_3).f0))
                                              · rw [if_pos c81] at H
                                                have c81b0 : ((rd t310 x13_5) == (rd t310 ((rd_T38 t316 x10_3).f0))) = true := beq_iff_eq.mpr c81
                                                have c81b1 : ((rd t310 x13_5) != (rd t310 ((rd_T38 t316 x10_3).f0))) = false := bne_eq_false_iff_eq.mpr c81
                                                clear c81
                                                by_cases c82 : x9_5 ≥ (t313.length : Int)
                                                · rw [if_pos c82] at H
                                                  have c82b0 : decide ((t313.length : Int) ≤ x9_5) = true := decide_eq_true c82
                                                  clear c82
                                                  obtain rfl := Option.some.inj H
                                                  obtain ⟨Ao83, co83, eo83⟩ := Kd.R_slice HO_6.out
                                                  subst eo83
                                                  have p328 : 0 ≤ (((rd_T38 t316 x10_3).f0) : Int) := of_decide_eq_true (by first | (with_reducible assumption) | assumption)
                                                  have q328 : ((rd_T38 t316 x10_3).f0) < (t310.length : Int) := of_decide_eq_true (by first | (with_reducible assumption) | assumption)
                                                  obtain ⟨ad328, e328, hx328_0⟩ := Kd.at_int (Kd.R_reads' HO_6.out).2.2 ((rd_T38 t316 x10_3).f0) p328 q328
                                                  cases e328
                                                  replace p328 := eq_true p328
                                                  replace q328 := eq_true q328
                                                  have p332 : 0 ≤ (x13_5 : Int) := of_decide_eq_true (by first | (with_reducible assumption) | assumption)
                                                  have q332 : x13_5 < (t310.length : Int) := of_decide_eq_true (by first | (with_reducible assumption) | assumption)
                                                  obtain ⟨ad332, e332, hx332_0⟩ := Kd.at_int (Kd.R_reads' HO_6.out).2.2 x13_5 p332 q332
                                                  obtain rfl : ad328 = ad332 := (by injection e332)
                                                  replace p332 := eq_true p332
                                                  replace q332 := eq_true q332
                                                  have p333 : 0 ≤ (((rd_T38 t316 x10_3).f0) : Int) := of_decide_eq_true (by first | (with_reducible assumption) | assumption)
                                                  have q333 : ((rd_T38 t316 x10_3).f0) < (t310.length : Int) := of_decide_eq_true (by first | (with_reducible assumption) | assumption)
                                                  obtain ⟨ad333, e333, hx333_0⟩ := Kd.at_int (Kd.R_reads' HO_6.out).2.2 ((rd_T38 t316 x10_3).f0) p333 q333
                                                  obtain rfl : ad328 = ad333 := (by injection e333)
                                                  replace p333 := eq_true p333
                                                  replace q333 := eq_true q333
                                                  obtain ⟨Ao84, co84, eo84⟩ := Kd.R_slice HO_7.out
                                                  subst eo84
                                                  go_wp2
                                                  repeat (go_quiet (fail); try go_wp2)
                                                  go_ret
                                                  exact ⟨by first | rfl | (simp [errW_none, errW_some] <;> rfl) | (simp [*, errW_none, errW_some] <;> rfl), by repeat (first | (with_reducible first | exact HB.out | apply below_alloc | apply pw_below_drewN | apply below_drew1) | exact HB.out)⟩
                                                · rw [if_neg c82] at H
                                                  have c82b0 : decide ((t313.length : Int) ≤ x9_5) = false := decide_eq_false c82
                                                  clear c82
                                                  by_cases c85 : 0 ≤ x9_5
                                                  · rw [if_pos c85] at H
                                                    have c85b0 : decide (0 ≤ x9_5) = true := decide_eq_true c85
                                                    clear c85
                                                    by_cases c86 : x9_5 < (t313.length : Int)
                                                    · rw [if_pos c86] at H
                                                      have c86b0 : decide (x9_5 < (t313.length : Int)) = true := decide_eq_true c86
                                                      clear c86
                                                      by_cases c87 : (rd t313 x9_5) = x13_5
                                                      · rw [if_pos c87] at H
                                                        have c87b0 : ((rd t313 x9_5) == x13_5) = true := beq_iff_eq.mpr c87
                                                        have c87b1 : ((rd t313 x9_5) != x13_5) = false := bne_eq_false_iff_eq.mpr c87
                                                        clear c87
                                                        have H' := Aside0.mk H
                                                        clear H
                                                        obtain ⟨Ao88, co88, eo88⟩ := Kd.R_slice HO_6.out
                                                        subst eo88
                                                        have p328 : 0 ≤ (((rd_T38 t316 x10_3).f0) : Int) := of_decide_eq_true (by first | (with_reducible assumption) | assumption)
                                                        have q328 : ((rd_T38 t316 x10_3).f0) < (t310.length : Int) := of_decide_eq_true (by first | (with_reducible assumption) | assumption)
                                                        obtain ⟨ad328, e328, hx328_0⟩ := Kd.at_int (Kd.R_reads' HO_6.out).2.2 ((rd_T38 t316 x10_3).f0) p328 q328
                                                        cases e328
                                                        replace p328 := eq_true p328
                                                        replace q328 := eq_true q328
                                                        have p332 : 0 ≤ (x13_5 : Int) := of_decide_eq_true (by first | (with_reducible assumption) | assumption)
                                                        have q332 : x13_5 < (t310.length : Int) := of_decide_eq_true (by first | (with_reducible assumption) | assumption)
                                                        obtain ⟨ad332, e332, hx332_0⟩ := Kd.at_int (Kd.R_reads' HO_6.out).2.2 x13_5 p332 q332
                                                        obtain rfl : ad328 = ad332 := (by injection e332)
                                                        replace p332 := eq_true p332
                                                        replace q332 := eq_true q332
                                                        have p333 : 0 ≤ (((rd_T38 t316 x10_3).f0) : Int) := of_decide_eq_true (by first | (with_reducible assumption) | assumption)
                                                        have q333 : ((rd_T38 t316 x10_3).f0) < (t310.length : Int) := of_decide_eq_true (by first | (with_reducible assumption) | assumption)
                                                        obtain ⟨ad333, e333, hx333_0⟩ := Kd.at_int (Kd.R_reads' HO_6.out).2.2 ((rd_T38 t316 x10_3).f0) p333 q333
                                                        obtain rfl : ad328 = ad333 := (by injection e333)
                                                        replace p333 := eq_true p333
                                                        replace q333 := eq_true q333
                                                        obtain ⟨Ao89, co89, eo89⟩ := Kd.R_slice HO_7.out
                                                        subst eo89
                                                        have p334 : 0 ≤ (x9_5 : Int) := of_decide_eq_true (by first | (with_reducible assumption) | assumption)
                                                        have q334 : x9_5 < (t313.length : Int) := of_decide_eq_true (by first | (with_reducible assumption) | assumption)
                                                        obtain ⟨ad334, e334, hx334_0⟩ := Kd.at_int (Kd.R_reads' HO_7.out).2.2 x9_5 p334 q334
                                                        cases e334
                                                        replace p334 := eq_true p334
                                                        replace q334 := eq_true q334
                                                        go_wp2
                                                        repeat (go_quiet (fail); try go_wp2)
                                                        go_roundg k5
                                                        case measure => have := HJ2.out; have := HJ14.out; have := HK3.out; have := HJ29.out; have := HK5.out; omega
                                                        case rel => exact ⟨(wrap64 (x9_5 + 1)), (wrap64 (x13_5 + 1)), (by first | rfl | (simp; done) | (simp [*]; done)), (by first | rfl | (simp; done) | (simp [*]; done)), H', ⟨by have := HJ2.out; have := HJ14.out; have := HK3.out; have := HJ29.out; have := HK5.out; omega⟩, ⟨by (with_reducible repeat (first | apply Kd.R_alloc | apply Kd.R_drewN | apply Kd.R_drew)); exact HO_5.out⟩, ⟨by (with_reducible repeat (first | apply Kd.R_alloc | apply Kd.R_drewN | apply Kd.R_drew)); exact HO_6.out⟩, ⟨by (with_reducible repeat (first | apply Kd.R_alloc | apply Kd.R_drewN | apply Kd.R_drew)); exact HO_7.out⟩, ⟨by (with_reducible repeat (first | apply Kd.R_alloc | apply Kd.R_drewN | apply Kd.R_drew)); exact HO_8.out⟩, ⟨by repeat (first | (with_reducible first | exact HB.out | apply below_alloc | apply pw_below_drewN | apply below_drew1) | exact HB.out)⟩⟩
                                                      · rw [if_neg c87] at H
                                                        have c87b0 : ((rd t313 x9_5) == x13_5) = false := beq_eq_false_iff_ne.mpr c87
                                                        have c87b1 : ((rd t313 x9_5) != x13_5) = true := bne_iff_ne.mpr c87
                                                        obtain rfl := Option.some.inj H
                                                        obtain ⟨Ao90, co90, eo90⟩ := Kd.R_slice HO_6.out
                                                        subst eo90
                                                        have p328 : 0 ≤ (((rd_T38 t316 x10_3).f0) : Int) := of_decide_eq_true (by first | (with_reducible assumption) | assumption)
                                                        have q328 : ((rd_T38 t316 x10_3).f0) < (t310.length : Int) := of_decide_eq_true (by first | (with_reducible assumption) | assumption)
                                                        obtain ⟨ad328, e328, hx328_0⟩ := Kd.at_int (Kd.R_reads' HO_6.out).2.2 ((rd_T38 t316 x10_3).f0) p328 q328
                                                        cases e328
                                                        replace p328 := eq_true p328
                                                        replace q328 := eq_true q328
                                                        have p332 : 0 ≤ (x13_5 : Int) := of_decide_eq_true (by first | (with_reducible assumption) | assumption)
                                                        have q332 : x13_5 < (t310.length : Int) := of_decide_eq_true (by first | (with_reducible assumption) | assumption)
                                                        obtain ⟨ad332, e332, hx332_0⟩ := Kd.at_int (Kd.R_reads' HO_6.out).2.2 x13_5 p332 q332
                                                        obtain rfl : ad328 = ad332 := (by injection e332)
                                                        replace p332 := eq_true p332
                                                        replace q332 := eq_true q332
                                                        have p333 : 0 ≤ (((rd_T38 t316 x10_3).f0) : Int) := of_decide_eq_true (by first | (with_reducible assumption) | assumption)
                                                        have q333 : ((rd_T38 t316 x10_3).f0) < (t310.length : Int) := of_decide_eq_true (by first | (with_reducible assumption) | assumption)
                                                        obtain ⟨ad333, e333, hx333_0⟩ := Kd.at_int (Kd.R_reads' HO_6.out).2.2 ((rd_T38 t316 x10_3).f0) p333 q333
                                                        obtain rfl : ad328 = ad333 := (by injection e333)
                                                        replace p333 := eq_true p333
                                                        replace q333 := eq_true q333
                                                        obtain ⟨Ao91, co91, eo91⟩ := Kd.R_slice HO_7.out
                                                        subst eo91
                                                        have p334 : 0 ≤ (x9_5 : Int) := of_decide_eq_true (by first | (with_reducible assumption) | assumption)
                                                        have q334 : x9_5 < (t313.length : Int) := of_decide_eq_true (by first | (with_reducible assumption) | assumption)
                                                        obtain ⟨ad334, e334, hx334_0⟩ := Kd.at_int (Kd.R_reads' HO_7.out).2.2 x9_5 p334 q334
                                                        cases e334
                                                        replace p334 := eq_true p334
                                                        replace q334 := eq_true q334
                                                        go_wp2
                                                        repeat (go_quiet (fail); try go_wp2)
                                                        go_ret
                                                        exact ⟨by first | rfl | (simp [errW_none, errW_some] <;> rfl) | (simp [*, errW_none, errW_some] <;> rfl), by repeat (first | (with_reducible first | exact HB.out | apply below_alloc | apply pw_below_drewN | apply below_drew1) | exact HB.out)⟩
                                                    · rw [if_neg c86] at H
                                                      exact absurd H (by simp)
                                                  · rw [if_neg c85] at H
                                                    exact absurd H (by simp)
                                              · rw [if_neg c81] at H
                                                have c81b0 : ((rd t310 x13_5) == (rd t310 ((rd_T38 t316 x10_3).f0))) = false := beq_eq_false_iff_ne.mpr c81
                                                have c81b1 : ((rd t310 x13_5) != (rd t310 ((rd_T38 t316 x10_3).f0))) = true := bne_iff_ne.mpr c81
                                                obtain rfl := Option.some.inj H
                                                obtain ⟨Ao92, co92, eo92⟩ := Kd.R_slice HO_6.out
                                                subst eo92
                                                have p328 : 0 ≤ (((rd_T38 t316 x10_3).f0) : Int) := of_decide_eq_true (by first | (with_reducible assumption) | assumption)
                                                have q328 : ((rd_T38 t316 x10_3).f0) < (t310.length : Int) := of_decide_eq_true (by first | (with_reducible assumption) | assumption)
                                                obtain ⟨ad328, e328, hx328_0⟩ := Kd.at_int (Kd.R_reads' HO_6.out).2.2 ((rd_T38 t316 x10_3).f0) p328 q328
                                                cases e328
                                                replace p328 := eq_true p328
                                                replace q328 := eq_true q328
                                                have p332 : 0 ≤ (x13_5 : Int) := of_decide_eq_true (by first | (with_reducible assumption) | assumption)
                                                have q332 : x13_5 < (t310.length : Int) := of_decide_eq_true (by first | (with_reducible assumption) | assumption)
                                                obtain ⟨ad332, e332, hx332_0⟩ := Kd.at_int (Kd.R_reads' HO_6.out).2.2 x13_5 p332 q332
                                                obtain rfl : ad328 = ad332 := (by injection e332)
                                                replace p332 := eq_true p332
                                                replace q332 := eq_true q332
                                                have p333 : 0 ≤ (((rd_T38 t316 x10_3).f0) : Int) := of_decide_eq_true (by first | (with_reducible assumption) | assumption)
                                                have q333 : ((rd_T38 t316 x10_3).f0) < (t310.length : Int) := of_decide_eq_true (by first | (with_reducible assumption) | assumption)
                                                obtain ⟨ad333, e333, hx333_0⟩ := Kd.at_int (Kd.R_reads' HO_6.out).2.2 ((rd_T38 t316 x10_3).f0) p333 q333
                                                obtain rfl : ad328 = ad333 := (by injection e333)
                                                replace p333 := eq_true p333
                                                replace q333 := eq_true q333
                                                go_wp2
                                                repeat (go_quiet (fail); try go_wp2)
                                                go_ret
                                                exact ⟨by first | rfl | (simp [errW_none, errW_some] <;> rfl) | (simp [*, errW_none, errW_some] <;> rfl), by repeat (first | (with_reducible first | exact HB.out | apply below_alloc | apply pw_below_drewN | apply below_drew1) | exact HB.out)⟩
                                            · rw [if_neg c80] at H
                                              exact absurd H (by simp)
                                          · rw [if_neg c79] at H
                                            exact absurd H (by simp)
                                      · rw [if_neg c63] at H
                                        exact absurd H (by simp)
                                    · rw [if_neg c62] at H
                                      exact absurd H (by simp)
                                  · rw [if_neg c61] at H
                                    have c61b0 : decide (x13_5 < ((rd_T38 t316 x10_3).f1)) = false := decide_eq_false c61
                                    clear c61
                                    have H' := Aside0.mk H
                                    clear H
                                    go_wp2
                                    repeat (go_quiet (fail); try go_wp2)
                                    go_roundg k5
                                    case measure => have := HJ2.out; have := HJ14.out; have := HK3.out; have := HJ29.out; have := HK5.out; omega
                                    case rel => exact ⟨(x9_5), (wrap64 (x10_3 + 1)), (by first | rfl | (simp; done) | (simp [*]; done)), (by first | rfl | (simp; done) | (simp [*]; done)), H', ⟨by have := HJ2.out; have := HJ14.out; have := HK3.out; have := HJ29.out; have := HK5.out; omega⟩, ⟨by (with_reducible repeat (first | apply Kd.R_alloc | apply Kd.R_drewN | apply Kd.R_drew)); exact HO_5.out⟩, ⟨by (with_reducible repeat (first | apply Kd.R_alloc | apply Kd.R_drewN | apply Kd.R_drew)); exact HO_6.out⟩, ⟨by (with_reducible repeat (first | apply Kd.R_alloc | apply Kd.R_drewN | apply Kd.R_drew)); exact HO_7.out⟩, ⟨by (with_reducible repeat (first | apply Kd.R_alloc | apply Kd.R_drewN | apply Kd.R_drew)); exact HO_8.out⟩, ⟨by repeat (first | (with_reducible first | exact HB.out | apply below_alloc | apply pw_below_drewN | apply below_drew1) | exact HB.out)⟩⟩
                      · rw [if_neg c29] at H
                        exact absurd H (by simp)
                    · rw [if_neg c28] at H
                      have c28b0 : decide (x10_3 < (t316.length : Int)) = false := decide_eq_false c28
                      clear c28
                      replace H := Option.bind_eq_some_iff.mp H
                      obtain ⟨t319, A930, H⟩ := H
                      replace H : (if t319 = true then (some (x9_3 == (y307.length : Int))) else (some false)) = some r := H
                      have A93 := Aside0.mk A930
                      clear A930
                      by_cases c94 : t319 = true
                      · subst c94
                        have H1 : (some (x9_3 == (y307.length : Int))) = some r := by rw [if_pos rfl] at H; exact H
                        clear H
                        have H := H1
                        clear H1
                        obtain rfl := Option.some.inj H
                        obtain ⟨Ao95, co95, eo95⟩ := Kd.R_slice HO_8.out
                        subst eo95
                        go_wp2_with (first | (go_at_call 15; (with_reducible refine (pentaglotlaw43_awake.calls k3  true _ (Glob.below HG.out (by repeat (first | (with_reducible first | exact HB.out | apply below_alloc | apply pw_below_drewN | apply below_drew1) | exact HB.out))) A93.out).mono ?_); rintro e w96 ⟨rfl, hb⟩; have n0_ := Aside0.mk (Kd.R_below (by (with_reducible repeat (first | apply Kd.R_alloc | apply Kd.R_drewN | apply Kd.R_drew)); exact HO_5.out) hb); have n1_ := Aside0.mk (Kd.R_below (by (with_reducible repeat (first | apply Kd.R_alloc | apply Kd.R_drewN | apply Kd.R_drew)); exact HO_6.out) hb); have n2_ := Aside0.mk (Kd.R_below (by (with_reducible repeat (first | apply Kd.R_alloc | apply Kd.R_drewN | apply Kd.R_drew)); exact HO_7.out) hb); have n3_ := Aside0.mk (Kd.R_below (by (with_reducible repeat (first | apply Kd.R_alloc | apply Kd.R_drewN | apply Kd.R_drew)); exact HO_8.out) hb); have n4_ := Aside0.mk (below_step (by repeat (first | (with_reducible first | exact HB.out | apply below_alloc | apply pw_below_drewN | apply below_drew1) | exact HB.out)) hb); clear HO_5; clear HO_6; clear HO_7; clear HO_8; clear HB; have HO_5 := n0_; have HO_6 := n1_; have HO_7 := n2_; have HO_8 := n3_; have HB := n4_; clear n0_ n1_ n2_ n3_ n4_; (try clear hb); (try clear hb2); (try clear hk); (try clear hi); obtain ⟨Ao97, co97, eo97⟩ := Kd.R_slice HO_5.out; subst eo97))
                        repeat (go_quiet (first | (go_at_call 15; (with_reducible refine (pentaglotlaw43_awake.calls k3  true _ (Glob.below HG.out (by repeat (first | (with_reducible first | exact HB.out | apply below_alloc | apply pw_below_drewN | apply below_drew1) | exact HB.out))) A93.out).mono ?_); rintro e w96 ⟨rfl, hb⟩; have n0_ := Aside0.mk (Kd.R_below (by (with_reducible repeat (first | apply Kd.R_alloc | apply Kd.R_drewN | apply Kd.R_drew)); exact HO_5.out) hb); have n1_ := Aside0.mk (Kd.R_below (by (with_reducible repeat (first | apply Kd.R_alloc | apply Kd.R_drewN | apply Kd.R_drew)); exact HO_6.out) hb); have n2_ := Aside0.mk (Kd.R_below (by (with_reducible repeat (first | apply Kd.R_alloc | apply Kd.R_drewN | apply Kd.R_drew)); exact HO_7.out) hb); have n3_ := Aside0.mk (Kd.R_below (by (with_reducible repeat (first | apply Kd.R_alloc | apply Kd.R_drewN | apply Kd.R_drew)); exact HO_8.out) hb); have n4_ := Aside0.mk (below_step (by repeat (first | (with_reducible first | exact HB.out | apply below_alloc | apply pw_below_drewN | apply below_drew1) | exact HB.out)) hb); clear HO_5; clear HO_6; clear HO_7; clear HO_8; clear HB; have HO_5 := n0_; have HO_6 := n1_; have HO_7 := n2_; have HO_8 := n3_; have HB := n4_; clear n0_ n1_ n2_ n3_ n4_; (try clear hb); (try clear hb2); (try clear hk); (try clear hi); obtain ⟨Ao97, co97, eo97⟩ := Kd.R_slice HO_5.out; subst eo97)); try go_wp2_with (first | (go_at_call 15; (with_reducible refine (pentaglotlaw43_awake.calls k3  true _ (Glob.below HG.out (by repeat (first | (with_reducible first | exact HB.out | apply below_alloc | apply pw_below_drewN | apply below_drew1) | exact HB.out))) A93.out).mono ?_); rintro e w96 ⟨rfl, hb⟩; have n0_ := Aside0.mk (Kd.R_below (by (with_reducible repeat (first | apply Kd.R_alloc | apply Kd.R_drewN | apply Kd.R_drew)); exact HO_5.out) hb); have n1_ := Aside0.mk (Kd.R_below (by (with_reducible repeat (first | apply Kd.R_alloc | apply Kd.R_drewN | apply Kd.R_drew)); exact HO_6.out) hb); have n2_ := Aside0.mk (Kd.R_below (by (with_reducible repeat (first | apply Kd.R_alloc | apply Kd.R_drewN | apply Kd.R_drew)); exact HO_7.out) hb); have n3_ := Aside0.mk (Kd.R_below (by (with_reducible repeat (first | apply Kd.R_alloc | apply Kd.R_drewN | apply Kd.R_drew)); exact HO_8.out) hb); have n4_ := Aside0.mk (below_step (by repeat (first | (with_reducible first | exact HB.out | apply below_alloc | apply pw_below_drewN | apply below_drew1) | exact HB.out)) hb); clear HO_5; clear HO_6; clear HO_7; clear HO_8; clear HB; have HO_5 := n0_; have HO_6 := n1_; have HO_7 := n2_; have HO_8 := n3_; have HB := n4_; clear n0_ n1_ n2_ n3_ n4_; (try clear hb); (try clear hb2); (try clear hk); (try clear hi); obtain ⟨Ao97, co97, eo97⟩ := Kd.R_slice HO_5.out; subst eo97)))
                        go_ret
                        exact ⟨by first | rfl | (simp [errW_none, errW_some] <;> rfl) | (simp [*, errW_none, errW_some] <;> rfl), by repeat (first | (with_reducible first | exact HB.out | apply below_alloc | apply pw_below_drewN | apply below_drew1) | exact HB.out)⟩
                      · replace c94 := Bool.eq_false_iff.mpr c94
                        subst c94
                        have H1 : (some false) = some r := by rw [if_neg (show ¬ (false = true) by decide)] at H; exact H
                        clear H
                        have H := H1
                        clear H1
                        obtain rfl := Option.some.inj H
                        obtain ⟨Ao98, co98, eo98⟩ := Kd.R_slice HO_8.out
                        subst eo98
                        go_wp2_with (first | (go_at_call 15; (with_reducible refine (pentaglotlaw43_awake.calls k3  false _ (Glob.below HG.out (by repeat (first | (with_reducible first | exact HB.out | apply below_alloc | apply pw_below_drewN | apply below_drew1) | exact HB.out))) A93.out).mono ?_); rintro e w99 ⟨rfl, hb⟩; have n0_ := Aside0.mk (Kd.R_below (by (with_reducible repeat (first | apply Kd.R_alloc | apply Kd.R_drewN | apply Kd.R_drew)); exact HO_5.out) hb); have n1_ := Aside0.mk (Kd.R_below (by (with_reducible repeat (first | apply Kd.R_alloc | apply Kd.R_drewN | apply Kd.R_drew)); exact HO_6.out) hb); have n2_ := Aside0.mk (Kd.R_below (by (with_reducible repeat (first | apply Kd.R_alloc | apply Kd.R_drewN | apply Kd.R_drew)); exact HO_7.out) hb); have n3_ := Aside0.mk (Kd.R_below (by (with_reducible repeat (first | apply Kd.R_alloc | apply Kd.R_drewN | apply Kd.R_drew)); exact HO_8.out) hb); have n4_ := Aside0.mk (below_step (by repeat (first | (with_reducible first | exact HB.out | apply below_alloc | apply pw_below_drewN | apply below_drew1) | exact HB.out)) hb); clear HO_5; clear HO_6; clear HO_7; clear HO_8; clear HB; have HO_5 := n0_; have HO_6 := n1_; have HO_7 := n2_; have HO_8 := n3_; have HB := n4_; clear n0_ n1_ n2_ n3_ n4_; (try clear hb); (try clear hb2); (try clear hk); (try clear hi)))
                        repeat (go_quiet (first | (go_at_call 15; (with_reducible refine (pentaglotlaw43_awake.calls k3  false _ (Glob.below HG.out (by repeat (first | (with_reducible first | exact HB.out | apply below_alloc | apply pw_below_drewN | apply below_drew1) | exact HB.out))) A93.out).mono ?_); rintro e w99 ⟨rfl, hb⟩; have n0_ := Aside0.mk (Kd.R_below (by (with_reducible repeat (first | apply Kd.R_alloc | apply Kd.R_drewN | apply Kd.R_drew)); exact HO_5.out) hb); have n1_ := Aside0.mk (Kd.R_below (by (with_reducible repeat (first | apply Kd.R_alloc | apply Kd.R_drewN | apply Kd.R_drew)); exact HO_6.out) hb); have n2_ := Aside0.mk (Kd.R_below (by (with_reducible repeat (first | apply Kd.R_alloc | apply Kd.R_drewN | apply Kd.R_drew)); exact HO_7.out) hb); have n3_ := Aside0.mk (Kd.R_below (by (with_reducible repeat (first | apply Kd.R_alloc | apply Kd.R_drewN | apply Kd.R_drew)); exact HO_8.out) hb); have n4_ := Aside0.mk (below_step (by repeat (first | (with_reducible first | exact HB.out | apply below_alloc | apply pw_below_drewN | apply below_drew1) | exact HB.out)) hb); clear HO_5; clear HO_6; clear HO_7; clear HO_8; clear HB; have HO_5 := n0_; have HO_6 := n1_; have HO_7 := n2_; have HO_8 := n3_; have HB := n4_; clear n0_ n1_ n2_ n3_ n4_; (try clear hb); (try clear hb2); (try clear hk); (try clear hi))); try go_wp2_with (first | (go_at_call 15; (with_reducible refine (pentaglotlaw43_awake.calls k3  false _ (Glob.below HG.out (by repeat (first | (with_reducible first | exact HB.out | apply below_alloc | apply pw_below_drewN | apply below_drew1) | exact HB.out))) A93.out).mono ?_); rintro e w99 ⟨rfl, hb⟩; have n0_ := Aside0.mk (Kd.R_below (by (with_reducible repeat (first | apply Kd.R_alloc | apply Kd.R_drewN | apply Kd.R_drew)); exact HO_5.out) hb); have n1_ := Aside0.mk (Kd.R_below (by (with_reducible repeat (first | apply Kd.R_alloc | apply Kd.R_drewN | apply Kd.R_drew)); exact HO_6.out) hb); have n2_ := Aside0.mk (Kd.R_below (by (with_reducible repeat (first | apply Kd.R_alloc | apply Kd.R_drewN | apply Kd.R_drew)); exact HO_7.out) hb); have n3_ := Aside0.mk (Kd.R_below (by (with_reducible repeat (first | apply Kd.R_alloc | apply Kd.R_drewN | apply Kd.R_drew)); exact HO_8.out) hb); have n4_ := Aside0.mk (below_step (by repeat (first | (with_reducible first | exact HB.out | apply below_alloc | apply pw_below_drewN | apply below_drew1) | exact HB.out)) hb); clear HO_5; clear HO_6; clear HO_7; clear HO_8; clear HB; have HO_5 := n0_; have HO_6 := n1_; have HO_7 := n2_; have HO_8 := n3_; have HB := n4_; clear n0_ n1_ n2_ n3_ n4_; (try clear hb); (try clear hb2); (try clear hk); (try clear hi))))
                        go_ret
                        exact ⟨by first | rfl | (simp [errW_none, errW_some] <;> rfl) | (simp [*, errW_none, errW_some] <;> rfl), by repeat (first | (with_reducible first | exact HB.out | apply below_alloc | apply pw_below_drewN | apply below_drew1) | exact HB.out)⟩
        · rw [if_neg c11] at H
          exact absurd H (by simp)

/-- THE ONE PURE STATEMENT of pentaglotlaw43_BidiRuns: yours. -/
def pentaglotlaw43_BidiRuns.Pure : Prop := ∀ (a0 : Int) (a1 : ByteArray), (Lit.int .i64 a0).wf = true → a1.size ≤ 140737488351232 → ∃ k, pentaglotlaw43_BidiRuns.f k a0 a1 = some true

end Go.Proofs.YtfecolaljnijbaaDoor.C
