-- WRITTEN BY mkprint.py, a program of this session, over the kit's print of the given program. Not trusted: Lean checks it.
import Derived.Test.YtpfmcifiocpfbaaCx0
import Derived.Test.YtpfmcifiocpfbaaCx1
import Derived.Test.YtpfmcifiocpfbaaCx18
namespace Go.Proofs.Ytpfmcifiocpfbaa.C
open Go.RowKit Go.Proofs.YtpfmcifiocpfbaaW.PrintWords Go.Proofs.YtpfmcifiocpfbaaW.PrintLast Go.Proofs.YtpfmcifiocpfbaaW.PrintMore
attribute [local go_sem] max2_int min2_int max_two min_two max_three min_three max_four min_four   -- for this text's walks alone
set_option linter.unusedVariables false
set_option linter.unusedSimpArgs false

/-! ### pentaglotref16_Split: function 15 -/
set_option maxHeartbeats 8000000 in
set_option maxRecDepth 100000 in
theorem pentaglotref16_Split.calls (k : Nat) (A0 : Option Addr) (c0 : Nat) (l0 : List (S41)) (a1 : Int) (r1 : List Int) (r2 : Int) (w : World) (hr0 : Kd.C k41 w A0 l0.length l0) (hc0 : l0.length ≤ c0) (h : pentaglotref16_Split.f k l0 a1 = some (r1, r2)) :
    Calls Try.prog 15 #[.slice A0 l0.length c0, .int .i64 a1] w fun e w' => ∃ v0_ : Value, e = .returned (.tuple #[v0_, .int .i64 r2]) ∧ Kd.R (Kd.int .i64) 3 w' w.heap.size (fun _ => True) v0_ r1 ∧ Below w.heap.size w w' := by
  have HR0 := Aside0.mk hr0
  have HC0 := Aside0.mk hc0
  clear hr0 hc0
  have HB := Aside0.mk (Below.refl w.heap.size w)
  have H : ((pentaglotref16_Check.f k l0).bind fun t196 => (if t196 = true then (pentaglotref16_Split.j0 k l0 a1 (decide (a1 < 0))) else (pentaglotref16_Split.j0 k l0 a1 true))) = some (r1, r2) := h
  clear h
  have HC3 := Aside0.mk H
  clear H
  go_enter Try.func15, Try.ntmps15
  go_upto_region 1 with (fail)
  go_cut [14] (fun v14 wc => ∃ (kq : Nat) (x14_2 : Bool), v14 = .bool x14_2 ∧ Aside0 (pentaglotref16_Split.j0 kq l0 a1 x14_2 = some (r1, r2)) ∧ Aside0 (kq ≤ k) ∧ Aside0 (Below w.heap.size w wc))
  case first =>
    have H := HC3.out
    clear HC3
    replace H := Option.bind_eq_some_iff.mp H
    obtain ⟨t196, A40, H⟩ := H
    replace H : (if t196 = true then (pentaglotref16_Split.j0 k l0 a1 (decide (a1 < 0))) else (pentaglotref16_Split.j0 k l0 a1 true)) = some (r1, r2) := H
    have A4 := Aside0.mk A40
    clear A40
    by_cases c5 : t196 = true
    · subst c5
      have H1 : (pentaglotref16_Split.j0 k l0 a1 (decide (a1 < 0))) = some (r1, r2) := by rw [if_pos rfl] at H; exact H
      clear H
      have H := H1
      clear H1
      have H' := Aside0.mk H
      clear H
      go_wp2_with (first | ((with_reducible refine gate_callee (f := 17) rfl ?_); refine goesL_ (some 9) rfl rfl Try.func17 (by kernel_rfl) rfl #[.slice A0 l0.length c0] rfl (by (try simp only [List.map_toArray, List.map_cons, List.map_nil]); first | done | rfl | (simp only [List.length_drop, List.length_take]; rfl)) ?_; (with_reducible refine (pentaglotref16_Check.calls k _ _ l0 true _ ?side1 ?side2 A4.out).mono ?_); (case side1 => repeat (first | exact (Kd.C_below HR0.out HB.out) | (with_reducible refine Kd.C_alloc ?_ _) | (with_reducible refine Kd.C_drewN ?_ _) | (with_reducible refine Kd.C_drew ?_))); (case side2 => exact HC0.out); rintro e w6 ⟨rfl, hb⟩; refine ⟨_, rfl, ?_⟩; have n0_ := Aside0.mk (below_step (by repeat (first | (with_reducible first | exact HB.out | apply below_alloc | apply pw_below_drewN | apply below_drew1) | exact HB.out)) hb); clear HB; have HB := n0_; clear n0_; (try clear hb); (try clear hb2); (try clear hk); (try clear hi)))
      go_meet
      case rel => exact ⟨_, (decide (a1 < 0)), (by first | rfl | (simp; done) | (simp [*]; done)), H', ⟨by first | omega | exact Nat.le_refl _⟩, ⟨by repeat (first | (with_reducible first | exact HB.out | apply below_alloc | apply pw_below_drewN | apply below_drew1) | exact HB.out)⟩⟩
    · replace c5 := Bool.eq_false_iff.mpr c5
      subst c5
      have H1 : (pentaglotref16_Split.j0 k l0 a1 true) = some (r1, r2) := by rw [if_neg (show ¬ (false = true) by decide)] at H; exact H
      clear H
      have H := H1
      clear H1
      have H' := Aside0.mk H
      clear H
      go_wp2_with (first | ((with_reducible refine gate_callee (f := 17) rfl ?_); refine goesL_ (some 9) rfl rfl Try.func17 (by kernel_rfl) rfl #[.slice A0 l0.length c0] rfl (by (try simp only [List.map_toArray, List.map_cons, List.map_nil]); first | done | rfl | (simp only [List.length_drop, List.length_take]; rfl)) ?_; (with_reducible refine (pentaglotref16_Check.calls k _ _ l0 false _ ?side1 ?side2 A4.out).mono ?_); (case side1 => repeat (first | exact (Kd.C_below HR0.out HB.out) | (with_reducible refine Kd.C_alloc ?_ _) | (with_reducible refine Kd.C_drewN ?_ _) | (with_reducible refine Kd.C_drew ?_))); (case side2 => exact HC0.out); rintro e w7 ⟨rfl, hb⟩; refine ⟨_, rfl, ?_⟩; have n0_ := Aside0.mk (below_step (by repeat (first | (with_reducible first | exact HB.out | apply below_alloc | apply pw_below_drewN | apply below_drew1) | exact HB.out)) hb); clear HB; have HB := n0_; clear n0_; (try clear hb); (try clear hb2); (try clear hk); (try clear hi)))
      go_meet
      case rel => exact ⟨_, (true), (by first | rfl | (simp; done) | (simp [*]; done)), H', ⟨by first | omega | exact Nat.le_refl _⟩, ⟨by repeat (first | (with_reducible first | exact HB.out | apply below_alloc | apply pw_below_drewN | apply below_drew1) | exact HB.out)⟩⟩
  case rest =>
    clear HC3
    try clear c1
    try clear p2
    try clear c5
    obtain ⟨kq, x14_2, rfl, HA, HJ2, HB⟩ := hcut
    cases kq with
    | zero => exact absurd HA.out (by simp [pentaglotref16_Split.j0])
    | succ kj2 =>
      have H := HA.out
      clear HA
      simp only [pentaglotref16_Split.j0] at H
      by_cases c8 : x14_2 = true
      · subst c8
        have H1 : (some (([] : List Int), 1)) = some (r1, r2) := by rw [if_pos rfl] at H; exact H
        clear H
        have H := H1
        clear H1
        simp only [Option.some.injEq, Prod.mk.injEq] at H
        obtain ⟨rfl, rfl⟩ := H
        go_wp2
        go_ret2
        exact ⟨_, by first | rfl | (simp [errW_none, errW_some] <;> rfl) | (simp [*, errW_none, errW_some] <;> rfl), by first | exact Kd.R_nil _ _ _ _ _ | exact Kd.N_nil _ _ _ _ _ | exact Kd.V_nil _ _ _ _ _ | exact Kd.Q_nil _ _ _ _ _ | exact Kd.S_nil _ _ _ _ _, by repeat (first | (with_reducible first | exact HB.out | apply below_alloc | apply pw_below_drewN | apply below_drew1) | exact HB.out)⟩
      · replace c8 := Bool.eq_false_iff.mpr c8
        subst c8
        have H1 : (if a1 > 1099511627776 then (some (([] : List Int), 2)) else (if 0 ≤ (l0.length : Int) then (if ((l0.length : Int) : Int).toNat ≤ 35184372088832 then (pentaglotref16_Split.l0 kj2 l0 a1 (List.replicate ((l0.length : Int) : Int).toNat 0) (wrap64 ((l0.length : Int) - 1))) else (none)) else (none))) = some (r1, r2) := by rw [if_neg (show ¬ (false = true) by decide)] at H; exact H
        clear H
        have H := H1
        clear H1
        by_cases c9 : a1 > 1099511627776
        · rw [if_pos c9] at H
          have c9b0 : decide (1099511627776 < a1) = true := decide_eq_true c9
          clear c9
          simp only [Option.some.injEq, Prod.mk.injEq] at H
          obtain ⟨rfl, rfl⟩ := H
          go_wp2
          go_ret2
          exact ⟨_, by first | rfl | (simp [errW_none, errW_some] <;> rfl) | (simp [*, errW_none, errW_some] <;> rfl), by first | exact Kd.R_nil _ _ _ _ _ | exact Kd.N_nil _ _ _ _ _ | exact Kd.V_nil _ _ _ _ _ | exact Kd.Q_nil _ _ _ _ _ | exact Kd.S_nil _ _ _ _ _, by repeat (first | (with_reducible first | exact HB.out | apply below_alloc | apply pw_below_drewN | apply below_drew1) | exact HB.out)⟩
        · rw [if_neg c9] at H
          have c9b0 : decide (1099511627776 < a1) = false := decide_eq_false c9
          clear c9
          by_cases c10 : 0 ≤ (l0.length : Int)
          · rw [if_pos c10] at H
            have c10b0 := eq_true c10
            have c10b1 : decide (0 ≤ (l0.length : Int)) = true := decide_eq_true c10
            clear c10
            by_cases c11 : ((l0.length : Int) : Int).toNat ≤ 35184372088832
            · rw [if_pos c11] at H
              have c11b0 := eq_true c11
              have c11b1 : decide (((l0.length : Int) : Int).toNat ≤ 35184372088832) = true := decide_eq_true c11
              clear c11
              obtain ⟨y197, hy197⟩ : ∃ y_ : List Int, y_ = (List.replicate ((l0.length : Int) : Int).toNat 0) := ⟨_, rfl⟩
              replace H : (pentaglotref16_Split.l0 kj2 l0 a1 y197 (wrap64 ((l0.length : Int) - 1))) = some (r1, r2) := by first | (rw [hy197]; with_reducible exact H) | (have H2_ := (Option.bind_some _ _).symm.trans H; rw [hy197]; with_reducible exact H2_) | (have H2_ := (Option.bind_some _ _).symm.trans H; with_reducible exact H2_) | with_reducible exact H | (rw [hy197]; exact H) | exact H
              have Ny197 := Aside0.mk hy197
              clear hy197
              have H' := Aside0.mk H
              clear H
              go_wp2_with (first | ((with_reducible refine gate_dst (N := 19) rfl ?_); refine Kd.R_make (Kd.int .i64) _ 3 rfl (N := 19) rfl 25 _ _ rfl (l0.length : Int) rfl rfl Try.underlying25 (.int .i64 0) 8 info3 rfl (by decide) (by omega) 0 (ok := fun _ => True) (okp := fun _ => True) rfl (fun _ hk => hk) trivial (of_decide_eq_true (by first | (with_reducible assumption) | assumption)) (Nat.le_trans (Nat.mul_le_mul_right _ (of_decide_eq_true (by first | (with_reducible assumption) | assumption) : (l0.length : Int).toNat ≤ 35184372088832)) (by omega)) (Below.refl _ _) (Nat.le_refl _) ?_; intro v198 w12 ho13 hb hg_ hnew_; clear hg_ hnew_; (first | rw [← Ny197.out] at ho13 | (simp only [Int.reduceToNat] at ho13; rw [← Ny197.out] at ho13)); have n0_ := Aside0.mk (Kd.R_lower ho13 (below_size (by repeat (first | (with_reducible first | exact HB.out | apply below_alloc | apply pw_below_drewN | apply below_drew1) | exact HB.out)))); have n1_ := Aside0.mk (below_step (by repeat (first | (with_reducible first | exact HB.out | apply below_alloc | apply pw_below_drewN | apply below_drew1) | exact HB.out)) hb); clear HB; have HO199 := n0_; have HB := n1_; clear n0_ n1_; clear hb ho13))
              go_loopg [1, 7] kj2 (fun kq v1 v7 w' => ∃ (x1_2 : Int) (x6_2 : List Int) (x7_2 : Int), v1 = .int .i64 x1_2 ∧ v7 = .int .i64 x7_2 ∧ Aside0 (pentaglotref16_Split.l0 kq l0 x1_2 x6_2 x7_2 = some (r1, r2)) ∧ Aside0 (kq ≤ kj2) ∧ Aside0 (Kd.R (Kd.int .i64) 3 w' w.heap.size (fun _ => True) v198 x6_2) ∧ Aside0 (Below w.heap.size w w'))
              case atStart => exact ⟨(a1), (y197), (wrap64 ((l0.length : Int) - 1)), (by first | rfl | (simp; done) | (simp [*]; done)), (by first | rfl | (simp; done) | (simp [*]; done)), H', ⟨Nat.le_refl _⟩, ⟨by (with_reducible repeat (first | apply Kd.R_alloc | apply Kd.R_drewN | apply Kd.R_drew)); exact HO199.out⟩, ⟨by repeat (first | (with_reducible first | exact HB.out | apply below_alloc | apply pw_below_drewN | apply below_drew1) | exact HB.out)⟩⟩
              case round =>
                clear H'
                try clear c1
                try clear p2
                try clear c5
                try clear p6
                try clear c8
                try clear c9
                try clear c9b0
                try clear c10
                try clear c10b0
                try clear c10b1
                try clear c11
                try clear c11b0
                try clear c11b1
                try clear p2
                obtain ⟨x1_2, x6_2, x7_2, rfl, rfl, HA, HK2, HO_6, HB⟩ := hrel
                cases gk with
                | zero => exact absurd HA.out (by simp [pentaglotref16_Split.l0])
                | succ k2 =>
                  have H := HA.out
                  clear HA
                  simp only [pentaglotref16_Split.l0] at H
                  by_cases c14 : x7_2 ≥ 0
                  · rw [if_pos c14] at H
                    have c14b0 : decide (0 ≤ x7_2) = true := decide_eq_true c14
                    clear c14
                    by_cases c15 : 0 ≤ x7_2
                    · rw [if_pos c15] at H
                      have c15b0 : decide (0 ≤ x7_2) = true := decide_eq_true c15
                      clear c15
                      by_cases c16 : x7_2 < (l0.length : Int)
                      · rw [if_pos c16] at H
                        have c16b0 : decide (x7_2 < (l0.length : Int)) = true := decide_eq_true c16
                        clear c16
                        by_cases c17 : ((rd_T41 l0 x7_2).f1) = 0
                        · rw [if_pos c17] at H
                          exact absurd H (by simp)
                        · rw [if_neg c17] at H
                          have c17b0 : (((rd_T41 l0 x7_2).f1) == 0) = false := beq_eq_false_iff_ne.mpr c17
                          have c17b1 : (((rd_T41 l0 x7_2).f1) != 0) = true := bne_iff_ne.mpr c17
                          by_cases c18 : x7_2 < (x6_2.length : Int)
                          · rw [if_pos c18] at H
                            have c18b0 : decide (x7_2 < (x6_2.length : Int)) = true := decide_eq_true c18
                            clear c18
                            obtain ⟨y201, hy201⟩ : ∃ y_ : List Int, y_ = (x6_2.set (x7_2 : Int).toNat (wrap64 (Int.tdiv x1_2 ((rd_T41 l0 x7_2).f1)))) := ⟨_, rfl⟩
                            replace H : (pentaglotref16_Split.l0 k2 l0 (Int.tmod x1_2 ((rd_T41 l0 x7_2).f1)) y201 (wrap64 (x7_2 - 1))) = some (r1, r2) := by first | (rw [hy201]; with_reducible exact H) | (have H2_ := (Option.bind_some _ _).symm.trans H; rw [hy201]; with_reducible exact H2_) | (have H2_ := (Option.bind_some _ _).symm.trans H; with_reducible exact H2_) | with_reducible exact H | (rw [hy201]; exact H) | exact H
                            have Ny201 := Aside0.mk hy201
                            clear hy201
                            have H' := Aside0.mk H
                            clear H
                            have p200 : 0 ≤ (x7_2 : Int) := of_decide_eq_true (by first | (with_reducible assumption) | assumption)
                            have q200 : x7_2 < (l0.length : Int) := of_decide_eq_true (by first | (with_reducible assumption) | assumption)
                            obtain ⟨ad200, e200, hx200_0, hx200_1⟩ := at_T41 HR0.out x7_2 p200 q200
                            cases e200
                            replace hx200_0 := (HB.out.cell (World.block_lt_of_cell? w _ hx200_0)).trans hx200_0
                            replace hx200_1 := (HB.out.cell (World.block_lt_of_cell? w _ hx200_1)).trans hx200_1
                            replace p200 := eq_true p200
                            replace q200 := eq_true q200
                            have p19 : 0 ≤ (x7_2 : Int) := of_decide_eq_true (by first | (with_reducible assumption) | assumption)
                            have q19 : (x7_2 : Int) < ((x6_2.length : Int) : Int) := of_decide_eq_true (by first | (with_reducible assumption) | assumption)
                            obtain ⟨go19, co19, eo19, gb19, gl19, cl19, HG19⟩ := Kd.R_form HO_6.out (by omega)
                            (first | cases eo19 | (injection eo19 with ea_ en_ ec_; (first | subst ea_ | (injection ea_ with ea_; subst ea_)); subst ec_; clear en_))
                            have GB19 := Aside0.mk gb19
                            have GG19 := Aside0.mk HG19
                            clear gb19 gl19 HG19
                            obtain ⟨hx19_0, hf19_0⟩ := Kd.R_celln 0 HO_6.out (x7_2 : Int) p19 q19
                            replace p19 := eq_true p19
                            replace q19 := eq_true q19
                            have HP20 := Kd.R_putg HO_6.out (x7_2 : Int) (wrap64 (Int.tdiv x1_2 ((rd_T41 l0 x7_2).f1)))
                            go_wp2_with (first | ((with_reducible refine gate_store (t := 3) (p := 36) rfl ?_); refine store_event (t := 3) (p := 36) (v := ?vo_w21) (w1 := (wr.setCell ⟨go19, (x7_2 : Int).toNat, none⟩ (.int .i64 (wrap64 (Int.tdiv x1_2 ((rd_T41 l0 x7_2).f1)))))) ?hg ?ho ?hn ?hr ?_; (case ho => rfl); (case hg => rfl); (case hn => rfl); (case hr => first | (go_simp; done) | (go_simp; rfl)); intro w21 hw; have hg : wr.grownBy w21 (some go19) := (by rw [hw]; exact HP20.2); have hp_ : Kd.R (Kd.int .i64) 3 w21 w.heap.size (fun _ => True) (.slice (some ⟨go19, 0, none⟩) x6_2.length co19) y201 := (by rw [hw, Ny201.out]; exact HP20.1); clear HP20; have n0_ := Aside0.mk (hp_); have n1_ := Aside0.mk ((by rw [hw]; exact below_set (HB.out) GB19.out : Below w.heap.size w w21)); clear HO_6; clear HB; have HO_6 := n0_; have HB := n1_; clear n0_ n1_; clear hg hw hp_; have p202 : 0 ≤ (x7_2 : Int) := of_decide_eq_true (by first | (with_reducible assumption) | assumption); have q202 : x7_2 < (l0.length : Int) := of_decide_eq_true (by first | (with_reducible assumption) | assumption); obtain ⟨ad202, e202, hx202_0, hx202_1⟩ := at_T41 HR0.out x7_2 p202 q202; obtain rfl : ad200 = ad202 := (by injection e202); replace hx202_0 := (HB.out.cell (World.block_lt_of_cell? w _ hx202_0)).trans hx202_0; replace hx202_1 := (HB.out.cell (World.block_lt_of_cell? w _ hx202_1)).trans hx202_1; replace p202 := eq_true p202; replace q202 := eq_true q202))
                            go_roundg k2
                            case measure => have := HJ2.out; have := HK2.out; omega
                            case rel => exact ⟨(Int.tmod x1_2 ((rd_T41 l0 x7_2).f1)), (y201), (wrap64 (x7_2 - 1)), (by first | rfl | (simp; done) | (simp [*]; done)), (by first | rfl | (simp; done) | (simp [*]; done)), H', ⟨by have := HJ2.out; have := HK2.out; omega⟩, ⟨by (with_reducible repeat (first | apply Kd.R_alloc | apply Kd.R_drewN | apply Kd.R_drew)); exact HO_6.out⟩, ⟨by repeat (first | (with_reducible first | exact HB.out | apply below_alloc | apply pw_below_drewN | apply below_drew1) | exact HB.out)⟩⟩
                          · rw [if_neg c18] at H
                            exact absurd H (by simp)
                      · rw [if_neg c16] at H
                        exact absurd H (by simp)
                    · rw [if_neg c15] at H
                      exact absurd H (by simp)
                  · rw [if_neg c14] at H
                    have c14b0 : decide (0 ≤ x7_2) = false := decide_eq_false c14
                    clear c14
                    simp only [Option.some.injEq, Prod.mk.injEq] at H
                    obtain ⟨rfl, rfl⟩ := H
                    go_wp2
                    go_ret2
                    exact ⟨_, by first | rfl | (simp [errW_none, errW_some] <;> rfl) | (simp [*, errW_none, errW_some] <;> rfl), by (with_reducible repeat (first | apply Kd.R_alloc | apply Kd.R_drewN | apply Kd.R_drew)); exact HO_6.out, by repeat (first | (with_reducible first | exact HB.out | apply below_alloc | apply pw_below_drewN | apply below_drew1) | exact HB.out)⟩
            · rw [if_neg c11] at H
              exact absurd H (by simp)
          · rw [if_neg c10] at H
            exact absurd H (by simp)

end Go.Proofs.Ytpfmcifiocpfbaa.C
