-- WRITTEN BY mkprint.py, a program of this session, over the kit's print of the given program. Not trusted: Lean checks it.
import Derived.Test.YtpfmcifiocpfbaaCx0
import Derived.Test.YtpfmcifiocpfbaaCx1
namespace Go.Proofs.Ytpfmcifiocpfbaa.C
open Go.RowKit Go.Proofs.YtpfmcifiocpfbaaW.PrintWords Go.Proofs.YtpfmcifiocpfbaaW.PrintLast Go.Proofs.YtpfmcifiocpfbaaW.PrintMore
attribute [local go_sem] max2_int min2_int max_two min_two max_three min_three max_four min_four   -- for this text's walks alone
set_option linter.unusedVariables false
set_option linter.unusedSimpArgs false

/-! ### measure_system_valid: function 30 -/
set_option maxHeartbeats 8000000 in
set_option maxRecDepth 100000 in
theorem measure_system_valid.calls (k : Nat) (A0 : Option Addr) (c0 : Nat) (l : List S41) (r : Bool) (w : World) (hr0 : Kd.C k41 w A0 l.length l) (hc0 : l.length ≤ c0) (h : measure_system_valid.f k l = some r) :
    Calls Try.prog 30 #[.slice A0 l.length c0] w fun e w' => e = .returned (.bool r) ∧ Below w.heap.size w w' := by
  have hmm := @run_makeMap Try.prog
  unfold measure_system_valid.f at h
  have HR := Aside0.mk hr0
  have hmax := Kd.C_max hr0
  clear hr0
  by_cases h1 : (l.length : Int) < 1
  · rw [if_pos h1] at h
    obtain rfl := Option.some.inj h
    have b1 : decide ((l.length : Int) < 1) = true := decide_eq_true h1
    clear h1 h
    go_enter Try.func30, Try.ntmps30
    go_wp2
    go_ret
    exact ⟨rfl, Below.refl _ _⟩
  · rw [if_neg h1] at h
    have b1 : decide ((l.length : Int) < 1) = false := decide_eq_false h1
    by_cases h2 : (l.length : Int) > 8
    · rw [if_pos h2] at h
      obtain rfl := Option.some.inj h
      have b2 : decide (8 < (l.length : Int)) = true := decide_eq_true h2
      clear h1 h2 h
      go_enter Try.func30, Try.ntmps30
      go_wp2
      go_ret
      exact ⟨rfl, Below.refl _ _⟩
    · rw [if_neg h2] at h
      have b2 : decide (8 < (l.length : Int)) = false := decide_eq_false h2
      obtain ⟨ad, ead, hx0, hx1⟩ := at_T41 HR.out 0 (by omega) (by omega)
      subst ead
      rw [show ((0 : Int)).toNat = 0 from rfl, show 0 * 2 = 0 from rfl, Addr.add_zero'] at hx0 hx1
      have q0 : (0 < (l.length : Int)) = True := eq_true (by omega)
      have q1 : (0 < l.length) = True := eq_true (by omega)
      by_cases h3 : (rd_T41 l 0).f1 = 1
      · rw [if_pos h3] at h
        have b3 : ((rd_T41 l 0).f1 != 1) = false := bne_eq_false_iff_eq.mpr h3
        have H' := Aside0.mk h
        have L8 := Aside0.mk h2
        clear h1 h2 h3 h
        go_enter Try.func30, Try.ntmps30
        go_wp2
        have hS := Aside0.mk ((seen_made w).congr (g := seenIn (l.take (0 : Int).toNat)) (fun x => by simp [seenIn]))
        go_loopg [24] k (fun kq v24 w' => ∃ (i : Int), v24 = .int .i64 i ∧ Aside0 (0 ≤ i ∧ i ≤ l.length) ∧ Aside0 (measure_system_valid.l0 kq l i = some r) ∧ Aside0 (kq ≤ k) ∧ Aside0 (SeenAt w' w.heap.size i.toNat (seenIn (l.take i.toNat))) ∧ Aside0 (Below w.heap.size w w'))
        case atStart => exact ⟨0, (by first | rfl | (simp; done)), ⟨by omega, by omega⟩, H', ⟨Nat.le_refl _⟩, hS, ⟨below_step (Below.refl _ _) ((Below.refl _ _).alloc (Nat.le_refl _) _)⟩⟩
        case round =>
          clear H' hS hx0 hx1
          obtain ⟨i, rfl, HI, HA, HK, HS, HB⟩ := hrel
          obtain ⟨hi0, hi1⟩ := HI.out
          cases gk with
          | zero => exact absurd HA.out (by simp [measure_system_valid.l0])
          | succ k1 =>
            have H := HA.out
            clear HA
            simp only [measure_system_valid.l0] at H
            by_cases c1 : i < (l.length : Int)
            · rw [if_pos c1] at H
              have HRr := Aside0.mk (Kd.C_below HR.out HB.out)
              obtain ⟨ad2, ead2, hx0, hx1⟩ := at_T41 HRr.out i hi0 c1
              cases ead2
              have p1 : (0 ≤ i) = True := eq_true hi0
              have q2 : (i < (l.length : Int)) = True := eq_true c1
              have q2b : decide (i < (l.length : Int)) = true := decide_eq_true c1
              have SN := Aside0.mk (seenIn_next l i hi0 c1)
              by_cases c2 : (rd_T41 l i).f0.size ≤ 1000
              · rw [if_pos c2] at H
                have hlk := HS.out.look c2
                have hlo : ∀ o : Obj, (Instr.lookup 53 (.map (some w.heap.size)) (.string (rd_T41 l i).f0) false).run Try.prog (wr.alloc o) = .ok (.bool (seenIn (l.take i.toNat) (rd_T41 l i).f0.toList)) (wr.alloc o) := fun o => (HS.out.step (below_alloc (Below.refl _ _) o)).look c2
                clear hlk
                by_cases c3 : (rd_T41 l i).f0.toList = []
                · rw [if_pos c3] at H
                  obtain rfl := Option.some.inj H
                  have c3b : (rd_T41 l i).f0.toList.isEmpty = true := by rw [c3]; rfl
                  clear H c1 c2 c3
                  go_wp2
                  go_ret
                  exact ⟨rfl, below_alloc HB.out _⟩
                · rw [if_neg c3] at H
                  have c3b : (rd_T41 l i).f0.toList.isEmpty = false := by
                    cases e : (rd_T41 l i).f0.toList with
                    | nil => exact absurd e c3
                    | cons a b => rfl
                  clear c3
                  by_cases c4 : seenIn (l.take i.toNat) (rd_T41 l i).f0.toList = true
                  · rw [if_pos c4] at H
                    obtain rfl := Option.some.inj H
                    clear H c1 c2
                    go_wp2
                    go_ret
                    exact ⟨rfl, below_alloc HB.out _⟩
                  · rw [if_neg c4] at H
                    replace c4 := Bool.eq_false_iff.mpr c4
                    by_cases c5 : (rd_T41 l i).f1 > 1000000
                    · rw [if_pos c5] at H
                      obtain rfl := Option.some.inj H
                      have c5b : decide (1000000 < (rd_T41 l i).f1) = true := decide_eq_true c5
                      clear H c1 c2 c5
                      go_wp2
                      go_ret
                      exact ⟨rfl, below_alloc HB.out _⟩
                    · rw [if_neg c5] at H
                      have c5b : decide (1000000 < (rd_T41 l i).f1) = false := decide_eq_false c5
                      obtain ⟨D, h1, h2, h3⟩ := HS.out
                      have hkey : keyOf Try.prog 9 (.string (rd_T41 l i).f0) = some (.string (rd_T41 l i).f0.data.toList) := WideMaps.keyOf_string_mk Try.underlying9 (by unfold maxLen; omega)
                      have hlt : w.heap.size < wr.heap.size := HS.out.lt
                      clear c2 c5 HS
                      have HI0 := Aside0.mk hi0
                      have HI1 := Aside0.mk c1
                      by_cases c6 : i > 0
                      · rw [if_pos c6] at H
                        have c6b : decide (0 < i) = true := decide_eq_true c6
                        obtain ⟨ji, hji⟩ : ∃ j : Int, i - 1 = j := ⟨_, rfl⟩
                        rw [hji] at H
                        have s1 : (0 ≤ ji) = True := eq_true (by omega)
                        have s2 : (ji < (l.length : Int)) = True := eq_true (by omega)
                        have hjw2 : wrap64 (i - 1) = ji := by
                          have := L8.out
                          rw [← hji]; unfold wrap64; omega
                        have hjw : IntKind.i64.wrap (i - 1) = ji := (i64_w _).trans hjw2
                        clear hji
                        by_cases c7 : (rd_T41 l i).f1 ≤ (rd_T41 l ji).f1
                        · rw [if_pos c7] at H
                          obtain rfl := Option.some.inj H
                          have c7b : decide ((rd_T41 l i).f1 ≤ (rd_T41 l ji).f1) = true := decide_eq_true c7
                          clear H c6 c7
                          go_wp2_with (first | (at_mapUpdate; refine wpList_mapUpdate_own _ rfl _ _ _ 53 rfl 9 4 keyLaw Try.underlying53 _ w.heap.size i.toNat D rfl (h1.alloc _) (by unfold maxLen; omega) _ _ (.string (rd_T41 l i).f0.data.toList) rfl rfl hkey (.lit (.bool true)) [] (plainElem_bool Try.underlying4 true) ?_; intro w1 hown1 hgrow1; have n1_ := Aside0.mk ((SeenAt.put h2 h3 hown1).congr SN.out); have n2_ := Aside0.mk (pw_below_grown (below_alloc HB.out _) (some w.heap.size) (below_size (below_alloc HB.out _)) hgrow1 (fun k hk => by injection hk with hk; omega)); have n3_ : Aside0 (w1.heap[wr.heap.size]? = some (.cells #[.string (rd_T41 l i).f0, .int .i64 (rd_T41 l i).f1] 41 (0, 0))) := ⟨(hgrow1.block wr.heap.size (blk_lt (blk_new wr _)) (by intro e; injection e with e; omega)).trans (blk_new wr _)⟩; clear hown1 hgrow1 HB hlo; have HS := n1_; have HB := n2_; have B5 := n3_; clear n1_ n2_ n3_; have e50 := (blk_cell B5.out 0).trans rfl; have e51 := (blk_cell B5.out 1).trans rfl; have HRs := Aside0.mk (Kd.C_below HR.out HB.out); clear h1 h2 h3 hkey hlt c4 c3b c5b hx0 hx1 q2 q2b p1 HRr q0 q1; obtain ⟨ad3, ead3, hy0, hy1⟩ := at_T41 HRs.out ji (of_eq_true s1) (of_eq_true s2); obtain rfl : ad = ad3 := (by injection ead3)))
                          go_quiet (fail)
                          go_wp2
                          go_ret
                          exact ⟨rfl, by repeat (first | (with_reducible first | exact HB.out | apply below_alloc | apply pw_below_drewN | apply below_drew1) | exact HB.out)⟩
                        · rw [if_neg c7] at H
                          have c7b : decide ((rd_T41 l i).f1 ≤ (rd_T41 l ji).f1) = false := decide_eq_false c7
                          by_cases c8 : (rd_T41 l ji).f1 = 0
                          · rw [if_pos c8] at H
                            exact absurd H (by simp)
                          · rw [if_neg c8] at H
                            have c8b : ((rd_T41 l ji).f1 == 0) = false := beq_eq_false_iff_ne.mpr c8
                            by_cases c9 : Int.tmod (rd_T41 l i).f1 (rd_T41 l ji).f1 = 0
                            · rw [if_pos c9] at H
                              have c9b : (Int.tmod (rd_T41 l i).f1 (rd_T41 l ji).f1 != 0) = false := bne_eq_false_iff_eq.mpr c9
                              have H' := Aside0.mk H
                              clear H c6 c7 c9
                              go_wp2_with (first | (at_mapUpdate; refine wpList_mapUpdate_own _ rfl _ _ _ 53 rfl 9 4 keyLaw Try.underlying53 _ w.heap.size i.toNat D rfl (h1.alloc _) (by unfold maxLen; omega) _ _ (.string (rd_T41 l i).f0.data.toList) rfl rfl hkey (.lit (.bool true)) [] (plainElem_bool Try.underlying4 true) ?_; intro w1 hown1 hgrow1; have n1_ := Aside0.mk ((SeenAt.put h2 h3 hown1).congr SN.out); have n2_ := Aside0.mk (pw_below_grown (below_alloc HB.out _) (some w.heap.size) (below_size (below_alloc HB.out _)) hgrow1 (fun k hk => by injection hk with hk; omega)); have n3_ : Aside0 (w1.heap[wr.heap.size]? = some (.cells #[.string (rd_T41 l i).f0, .int .i64 (rd_T41 l i).f1] 41 (0, 0))) := ⟨(hgrow1.block wr.heap.size (blk_lt (blk_new wr _)) (by intro e; injection e with e; omega)).trans (blk_new wr _)⟩; clear hown1 hgrow1 HB hlo; have HS := n1_; have HB := n2_; have B5 := n3_; clear n1_ n2_ n3_; have e50 := (blk_cell B5.out 0).trans rfl; have e51 := (blk_cell B5.out 1).trans rfl; have HRs := Aside0.mk (Kd.C_below HR.out HB.out); clear h1 h2 h3 hkey hlt c4 c3b c5b hx0 hx1 q2 q2b p1 HRr q0 q1; obtain ⟨ad3, ead3, hy0, hy1⟩ := at_T41 HRs.out ji (of_eq_true s1) (of_eq_true s2); obtain rfl : ad = ad3 := (by injection ead3)))
                              go_quiet (fail)
                              go_wp2
                              go_roundg k1
                              case measure => have := HK.out; omega
                              case rel => exact ⟨i + 1, by go_num, ⟨by have := HI0.out; omega, by have := HI1.out; omega⟩, H', ⟨by have := HK.out; omega⟩, (by have hi0 := HI0.out; rw [show (i + 1).toNat = i.toNat + 1 by omega] at HS ⊢; exact ⟨HS.out.step (pw_below_drewN (Below.refl _ _) _)⟩), ⟨pw_below_drewN HB.out _⟩⟩
                            · rw [if_neg c9] at H
                              obtain rfl := Option.some.inj H
                              have c9b : (Int.tmod (rd_T41 l i).f1 (rd_T41 l ji).f1 != 0) = true := bne_iff_ne.mpr c9
                              clear H c6 c7 c9
                              go_wp2_with (first | (at_mapUpdate; refine wpList_mapUpdate_own _ rfl _ _ _ 53 rfl 9 4 keyLaw Try.underlying53 _ w.heap.size i.toNat D rfl (h1.alloc _) (by unfold maxLen; omega) _ _ (.string (rd_T41 l i).f0.data.toList) rfl rfl hkey (.lit (.bool true)) [] (plainElem_bool Try.underlying4 true) ?_; intro w1 hown1 hgrow1; have n1_ := Aside0.mk ((SeenAt.put h2 h3 hown1).congr SN.out); have n2_ := Aside0.mk (pw_below_grown (below_alloc HB.out _) (some w.heap.size) (below_size (below_alloc HB.out _)) hgrow1 (fun k hk => by injection hk with hk; omega)); have n3_ : Aside0 (w1.heap[wr.heap.size]? = some (.cells #[.string (rd_T41 l i).f0, .int .i64 (rd_T41 l i).f1] 41 (0, 0))) := ⟨(hgrow1.block wr.heap.size (blk_lt (blk_new wr _)) (by intro e; injection e with e; omega)).trans (blk_new wr _)⟩; clear hown1 hgrow1 HB hlo; have HS := n1_; have HB := n2_; have B5 := n3_; clear n1_ n2_ n3_; have e50 := (blk_cell B5.out 0).trans rfl; have e51 := (blk_cell B5.out 1).trans rfl; have HRs := Aside0.mk (Kd.C_below HR.out HB.out); clear h1 h2 h3 hkey hlt c4 c3b c5b hx0 hx1 q2 q2b p1 HRr q0 q1; obtain ⟨ad3, ead3, hy0, hy1⟩ := at_T41 HRs.out ji (of_eq_true s1) (of_eq_true s2); obtain rfl : ad = ad3 := (by injection ead3)))
                              go_quiet (fail)
                              go_wp2
                              go_ret
                              exact ⟨rfl, by repeat (first | (with_reducible first | exact HB.out | apply below_alloc | apply pw_below_drewN | apply below_drew1) | exact HB.out)⟩
                      · rw [if_neg c6] at H
                        have c6b : decide (0 < i) = false := decide_eq_false c6
                        have H' := Aside0.mk H
                        have hnm : Aside0 (i.toNat < maxLen) := ⟨by have := L8.out; unfold maxLen; omega⟩
                        clear H c6 c1 hi0 hi1
                        go_wp2_with (first | (at_mapUpdate; refine wpList_mapUpdate_own _ rfl _ _ _ 53 rfl 9 4 keyLaw Try.underlying53 _ w.heap.size i.toNat D rfl (h1.alloc _) hnm.out _ _ (.string (rd_T41 l i).f0.data.toList) rfl rfl hkey (.lit (.bool true)) [] (plainElem_bool Try.underlying4 true) ?_; intro w1 hown1 hgrow1; have n1_ := Aside0.mk ((SeenAt.put h2 h3 hown1).congr SN.out); have n2_ := Aside0.mk (pw_below_grown (below_alloc HB.out _) (some w.heap.size) (below_size (below_alloc HB.out _)) hgrow1 (fun k hk => by injection hk with hk; omega)); have n3_ : Aside0 (w1.heap[wr.heap.size]? = some (.cells #[.string (rd_T41 l i).f0, .int .i64 (rd_T41 l i).f1] 41 (0, 0))) := ⟨(hgrow1.block wr.heap.size (blk_lt (blk_new wr _)) (by intro e; injection e with e; omega)).trans (blk_new wr _)⟩; clear hown1 hgrow1 HB hlo; have HS := n1_; have HB := n2_; have B5 := n3_; clear n1_ n2_ n3_; have e50 := (blk_cell B5.out 0).trans rfl; have e51 := (blk_cell B5.out 1).trans rfl; have HRs := Aside0.mk (Kd.C_below HR.out HB.out); clear h1 h2 h3 hkey hlt c4 c3b c5b hx0 hx1 q2 q2b p1 HRr q0 q1))
                        simp only [Act.put]
                        go_quiet (fail)
                        go_wp2
                        go_roundg k1
                        case measure => have := HK.out; omega
                        case rel => exact ⟨i + 1, (by have h0 := HI0.out; have h1 := HI1.out; have h8 := L8.out; have e : wrap64 (i + 1) = i + 1 := (by unfold wrap64; omega); first | rw [e] | (simp only [i64_w]; rw [e]) | go_num), ⟨by have := HI0.out; omega, by have := HI1.out; omega⟩, H', ⟨by have := HK.out; omega⟩, (by have hi0 := HI0.out; rw [show (i + 1).toNat = i.toNat + 1 by omega] at HS ⊢; exact ⟨HS.out.step (pw_below_drewN (Below.refl _ _) _)⟩), ⟨pw_below_drewN HB.out _⟩⟩
              · rw [if_neg c2] at H
                exact absurd H (by simp)
            · rw [if_neg c1] at H
              obtain rfl := Option.some.inj H
              have q2b : decide (i < (l.length : Int)) = false := decide_eq_false c1
              clear H c1
              go_wp2
              go_ret
              exact ⟨rfl, HB.out⟩
      · rw [if_neg h3] at h
        obtain rfl := Option.some.inj h
        have b3 : ((rd_T41 l 0).f1 != 1) = true := bne_iff_ne.mpr h3
        clear h1 h2 h3 h
        go_enter Try.func30, Try.ntmps30
        go_wp2
        go_ret
        exact ⟨rfl, Below.refl _ _⟩

end Go.Proofs.Ytpfmcifiocpfbaa.C
