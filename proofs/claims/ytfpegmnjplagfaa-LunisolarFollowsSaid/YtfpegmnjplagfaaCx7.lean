-- WRITTEN BY mkprint.py, a program of this session, over the kit's print of the given program. Not trusted: Lean checks it.
import Derived.Test.YtfpegmnjplagfaaCx0
import Derived.Test.YtfpegmnjplagfaaCx2
import Derived.Test.YtfpegmnjplagfaaCx4
import Derived.Test.YtfpegmnjplagfaaCx5
import Derived.Test.YtfpegmnjplagfaaCx6
namespace Go.Proofs.Ytfpegmnjplagfaa.C
open Go.RowKit Go.Proofs.YtfpegmnjplagfaaW.PrintWords Go.Proofs.YtfpegmnjplagfaaW.PrintLast Go.Proofs.YtfpegmnjplagfaaW.PrintMore
attribute [local go_sem] max2_int min2_int max_two min_two max_three min_three max_four min_four   -- for this text's walks alone
set_option linter.unusedVariables false
set_option linter.unusedSimpArgs false

/-! ### lunisolar_Date: function 25 -/
set_option maxHeartbeats 8000000 in
set_option maxRecDepth 100000 in
/-- The closure: the months, and the box of the variable 'rest'. -/
theorem lunisolar_Date_1.calls (k : Nat) (ms : List S34) (r : Int) (r1 r2 r3 r4 : Int) (r5 : Bool) (gr : Nat) (v : Value) (w0 w : World) (hb0 : Below w0.heap.size w0 w) (hg0 : w0.heap.size ≤ gr)
    (hm : Kd.R k34 34 w w0.heap.size (fun _ => True) v ms) (hr : w.heap[gr]? = some (.cells #[.int .i64 r] 3 (0, 0))) (h : lunisolar_Date_1.l0 k ms r 0 = some (r1, r2, r3, r4, r5)) :
    Calls Try.prog 32 #[v, .pointer (some ⟨gr, 0, none⟩)] w fun e w' => e = .returned (.agg #[.int .i64 r1, .int .i64 r2, .int .i64 r3, .int .i64 r4, .bool r5]) ∧ Below w0.heap.size w0 w' ∧ KP w gr w' := by
  have hu34 := Try.underlying34
  have HB := Aside0.mk hb0
  have GR := Aside0.mk hg0
  have HO := Aside0.mk hm
  have BR := Aside0.mk hr
  have H' := Aside0.mk h
  clear h hm hr hb0 hg0
  obtain ⟨Ao, co, eo⟩ := Kd.R_slice HO.out
  subst eo
  go_enter Try.func32, Try.ntmps32
  go_wp2_with (first | ((with_reducible refine gate_dst (N := 3) rfl ?_); refine box_event ?hg (N := 3) ?hd (cs := #[.int .i64 0, .int .i64 0, .int .i64 0, .int .i64 0, .bool false]) (t := 34) ?hr ?_; (case hd => rfl); (case hg => rfl); (case hr => first | (go_simp; done) | (go_simp; rfl)); intro g3 hg w1 hbox hb; have n0_ := Aside0.mk (Kd.R_below HO.out hb); have n1_ := Aside0.mk (blk_below BR.out hb); have n2_ := Aside0.mk (below_step HB.out hb); have n3_ := Aside0.mk hbox; have n4_ : Aside0 (w0.heap.size ≤ g3) := ⟨by rw [hg]; exact below_size HB.out⟩; have n6_ := Aside0.mk ((KP.refl w gr).step hb); have n7_ : Aside0 (w.heap.size ≤ g3) := ⟨Nat.le_of_eq hg.symm⟩; have n5_ : Aside0 (g3 ≠ gr) := ⟨by rw [hg]; exact Nat.ne_of_gt (blk_lt BR.out)⟩; clear HO BR HB; have HO := n0_; have BR := n1_; have HB := n2_; have B3 := n3_; have G3 := n4_; have N3r := n5_; have KK := n6_; have GW3 := n7_; clear n0_ n1_ n2_ n3_ n4_ n5_ n6_ n7_; clear hb hbox hg))
  go_loopg [9] k (fun kq v9 w' => ∃ (r' i : Int), v9 = .int .i64 i ∧ Aside0 (0 ≤ i) ∧ Aside0 (lunisolar_Date_1.l0 kq ms r' i = some (r1, r2, r3, r4, r5)) ∧ Aside0 (kq ≤ k) ∧ Aside0 (Kd.R k34 34 w' w0.heap.size (fun _ => True) (.slice Ao ms.length co) ms) ∧ Aside0 (w'.heap[gr]? = some (.cells #[.int .i64 r'] 3 (0, 0))) ∧ Aside0 (w'.heap[g3]? = some (.cells #[.int .i64 0, .int .i64 0, .int .i64 0, .int .i64 0, .bool false] 34 (0, 0))) ∧ Aside0 (Below w0.heap.size w0 w') ∧ Aside0 (KP w gr w'))
  case atStart => exact ⟨r, 0, (by first | rfl | (simp; done)), ⟨Int.le_refl _⟩, H', ⟨Nat.le_refl _⟩, HO, BR, B3, HB, KK⟩
  case round =>
    clear H' HO BR B3 HB KK
    obtain ⟨r', i, rfl, HI, HA, HK, HO, BR, B3, HB, KK⟩ := hrel
    cases gk with
    | zero => exact absurd HA.out (by simp [lunisolar_Date_1.l0])
    | succ k1 =>
      have H := HA.out
      clear HA
      simp only [lunisolar_Date_1.l0] at H
      by_cases c1 : i < (ms.length : Int)
      · rw [if_pos c1] at H
        obtain ⟨n, A, H⟩ := Option.bind_eq_some_iff.mp H
        have AM := Aside0.mk A
        have hi0 := HI.out
        obtain ⟨ad, ead, hx0, hx1, hx2, hx3, hx4⟩ := at_T34 (Kd.R_reads' HO.out).2.2 i hi0 c1
        cases ead
        have p1 : (0 ≤ i) = True := eq_true hi0
        have q1 : (i < (ms.length : Int)) = True := eq_true c1
        have hlen := Kd.C_max (Kd.R_reads' HO.out).2.2
        clear A hi0 c1
        by_cases c2 : r' < n
        · rw [if_pos c2] at H
          have c2b : decide (r' < n) = true := decide_eq_true c2
          simp only [Option.some.injEq, Prod.mk.injEq] at H
          obtain ⟨rfl, rfl, rfl, rfl, rfl⟩ := H
          clear c2
          go_wp2_with (first | (go_at_call 21; (with_reducible refine (lunisolar_MonthDays.calls (rd_T34 ms i).f0 (rd_T34 ms i).f1 (rd_T34 ms i).f2 (rd_T34 ms i).f3 (rd_T34 ms i).f4 n _ AM.out).mono ?_); rintro e w2 ⟨rfl, hb⟩; have n0_ := Aside0.mk (Kd.R_below (Kd.R_alloc HO.out _) hb); have n1_ := Aside0.mk (blk_below (blk_alloc BR.out _) hb); have n2_ := Aside0.mk (blk_below (blk_alloc B3.out _) hb); have n3_ := Aside0.mk (blk_below (blk_new wr (.cells #[.int .i64 (rd_T34 ms i).f0, .int .i64 (rd_T34 ms i).f1, .int .i64 (rd_T34 ms i).f2, .int .i64 (rd_T34 ms i).f3, .bool (rd_T34 ms i).f4] 34)) hb); have n4_ := Aside0.mk (below_step (below_alloc HB.out _) hb); have n5_ : Aside0 (w0.heap.size ≤ wr.heap.size) := ⟨below_size HB.out⟩; have n6_ : wr.heap.size ≠ gr := Nat.ne_of_gt (blk_lt BR.out); have n7_ : wr.heap.size ≠ g3 := Nat.ne_of_gt (blk_lt B3.out); have n8_ := Aside0.mk ((KK.out.alloc _).step hb); have n9_ : Aside0 (w.heap.size ≤ wr.heap.size) := ⟨KK.out.1⟩; clear HO BR B3 HB KK hb; generalize wr.heap.size = g5 at n3_ n5_ n6_ n7_ n9_ ⊢; have HO := n0_; have BR := n1_; have B3 := n2_; have B5 := n3_; have HB := n4_; have G5 := n5_; have N5r := n6_; have N53 := n7_; have KK := n8_; have GW5 := n9_; clear n0_ n1_ n2_ n3_ n4_ n5_ n6_ n7_ n8_ n9_; have e0 := (blk_cell B5.out 0).trans rfl; have e1 := (blk_cell B5.out 1).trans rfl; have e2 := (blk_cell B5.out 2).trans rfl; have e3 := (blk_cell B5.out 3).trans rfl; have e4 := (blk_cell B5.out 4).trans rfl; have er := (blk_cell BR.out 0).trans rfl; have e30 := (blk_cell B3.out 0).trans rfl; have e31 := (blk_cell B3.out 1).trans rfl; have e32 := (blk_cell B3.out 2).trans rfl; have e33 := (blk_cell B3.out 3).trans rfl; have e34 := (blk_cell B3.out 4).trans rfl; have z5 := blk_frozen B5.out; have z3 := blk_frozen B3.out; have zr := blk_frozen BR.out))
          refine bodyPost_ret (results_cell_row rfl _ _ g3 34 #[.int .i64 (rd_T34 ms i).f0, .int .i64 (rd_T34 ms i).f1, .int .i64 (rd_T34 ms i).f2, .int .i64 (wrap64 (r' + 1)), .bool (rd_T34 ms i).f4] (0, 0) _ rfl (blk_put (cs := #[.int .i64 (rd_T34 ms i).f0, .int .i64 (rd_T34 ms i).f1, .int .i64 (rd_T34 ms i).f2, .int .i64 (wrap64 (r' + 1)), .bool false]) (blk_put (cs := #[.int .i64 (rd_T34 ms i).f0, .int .i64 (rd_T34 ms i).f1, .int .i64 (rd_T34 ms i).f2, .int .i64 0, .bool false]) (blk_put (cs := #[.int .i64 (rd_T34 ms i).f0, .int .i64 (rd_T34 ms i).f1, .int .i64 0, .int .i64 0, .bool false]) (blk_put (cs := #[.int .i64 (rd_T34 ms i).f0, .int .i64 0, .int .i64 0, .int .i64 0, .bool false]) (blk_put (cs := #[.int .i64 0, .int .i64 0, .int .i64 0, .int .i64 0, .bool false]) (blk_far B3.out (p := ⟨g5, 3, none⟩) (Ne.symm N53) _) 0 _ rfl) 1 _ rfl) 2 _ rfl) 3 _ rfl) 4 _ rfl) Try.underlying34 rfl (by kernel_rfl)) rfl ?_
          exact ⟨rfl, (below_set (below_set (below_set (below_set (below_set (below_set HB.out G5.out) G3.out) G3.out) G3.out) G3.out) G3.out), (KP.set (KP.set (KP.set (KP.set (KP.set (KP.set KK.out (.inl GW5.out) _) (.inl GW3.out) _) (.inl GW3.out) _) (.inl GW3.out) _) (.inl GW3.out) _) (.inl GW3.out) _)⟩
        · rw [if_neg c2] at H
          have c2b : decide (r' < n) = false := decide_eq_false c2
          have H' := Aside0.mk H
          clear H c2
          go_wp2_with (first | (go_at_call 21; (with_reducible refine (lunisolar_MonthDays.calls (rd_T34 ms i).f0 (rd_T34 ms i).f1 (rd_T34 ms i).f2 (rd_T34 ms i).f3 (rd_T34 ms i).f4 n _ AM.out).mono ?_); rintro e w2 ⟨rfl, hb⟩; have n0_ := Aside0.mk (Kd.R_below (Kd.R_alloc HO.out _) hb); have n1_ := Aside0.mk (blk_below (blk_alloc BR.out _) hb); have n2_ := Aside0.mk (blk_below (blk_alloc B3.out _) hb); have n3_ := Aside0.mk (blk_below (blk_new wr (.cells #[.int .i64 (rd_T34 ms i).f0, .int .i64 (rd_T34 ms i).f1, .int .i64 (rd_T34 ms i).f2, .int .i64 (rd_T34 ms i).f3, .bool (rd_T34 ms i).f4] 34)) hb); have n4_ := Aside0.mk (below_step (below_alloc HB.out _) hb); have n5_ : Aside0 (w0.heap.size ≤ wr.heap.size) := ⟨below_size HB.out⟩; have n6_ : wr.heap.size ≠ gr := Nat.ne_of_gt (blk_lt BR.out); have n7_ : wr.heap.size ≠ g3 := Nat.ne_of_gt (blk_lt B3.out); have n8_ := Aside0.mk ((KK.out.alloc _).step hb); have n9_ : Aside0 (w.heap.size ≤ wr.heap.size) := ⟨KK.out.1⟩; clear HO BR B3 HB KK hb; generalize wr.heap.size = g5 at n3_ n5_ n6_ n7_ n9_ ⊢; have HO := n0_; have BR := n1_; have B3 := n2_; have B5 := n3_; have HB := n4_; have G5 := n5_; have N5r := n6_; have N53 := n7_; have KK := n8_; have GW5 := n9_; clear n0_ n1_ n2_ n3_ n4_ n5_ n6_ n7_ n8_ n9_; have e0 := (blk_cell B5.out 0).trans rfl; have e1 := (blk_cell B5.out 1).trans rfl; have e2 := (blk_cell B5.out 2).trans rfl; have e3 := (blk_cell B5.out 3).trans rfl; have e4 := (blk_cell B5.out 4).trans rfl; have er := (blk_cell BR.out 0).trans rfl; have e30 := (blk_cell B3.out 0).trans rfl; have e31 := (blk_cell B3.out 1).trans rfl; have e32 := (blk_cell B3.out 2).trans rfl; have e33 := (blk_cell B3.out 3).trans rfl; have e34 := (blk_cell B3.out 4).trans rfl; have z5 := blk_frozen B5.out; have z3 := blk_frozen B3.out; have zr := blk_frozen BR.out))
          go_roundg k1
          case measure => have := HK.out; omega
          case rel => exact ⟨wrap64 (r' - n), wrap64 (i + 1), (by first | rfl | (simp; done)), ⟨by have := HI.out; have := of_eq_true q1; unfold wrap64; omega⟩, H', ⟨by have := HK.out; omega⟩, ⟨Kd.R_set HO.out BR.out (by decide) 0 _⟩, ⟨blk_put (cs := #[.int .i64 r']) BR.out 0 _ rfl⟩, ⟨blk_far B3.out (p := ⟨gr, 0, none⟩) N3r.out _⟩, ⟨below_set HB.out GR.out⟩, ⟨KP.set KK.out (.inr rfl) _⟩⟩
      · rw [if_neg c1] at H
        simp only [Option.some.injEq, Prod.mk.injEq] at H
        obtain ⟨rfl, rfl, rfl, rfl, rfl⟩ := H
        have c1b : decide (i < (ms.length : Int)) = false := decide_eq_false c1
        clear c1
        have e30 := (blk_cell B3.out 0).trans rfl
        have e31 := (blk_cell B3.out 1).trans rfl
        have e32 := (blk_cell B3.out 2).trans rfl
        have e33 := (blk_cell B3.out 3).trans rfl
        have e34 := (blk_cell B3.out 4).trans rfl
        have z3 := blk_frozen B3.out
        go_wp2
        refine bodyPost_ret (results_cell_row rfl _ _ g3 34 #[.int .i64 0, .int .i64 0, .int .i64 0, .int .i64 0, .bool false] (0, 0) _ rfl (blk_put (cs := #[.int .i64 0, .int .i64 0, .int .i64 0, .int .i64 0, .bool false]) (blk_put (cs := #[.int .i64 0, .int .i64 0, .int .i64 0, .int .i64 0, .bool false]) (blk_put (cs := #[.int .i64 0, .int .i64 0, .int .i64 0, .int .i64 0, .bool false]) (blk_put (cs := #[.int .i64 0, .int .i64 0, .int .i64 0, .int .i64 0, .bool false]) (blk_put (cs := #[.int .i64 0, .int .i64 0, .int .i64 0, .int .i64 0, .bool false]) B3.out 0 _ rfl) 1 _ rfl) 2 _ rfl) 3 _ rfl) 4 _ rfl) Try.underlying34 rfl (by kernel_rfl)) rfl ?_
        exact ⟨rfl, (below_set (below_set (below_set (below_set (below_set HB.out G3.out) G3.out) G3.out) G3.out) G3.out), (KP.set (KP.set (KP.set (KP.set (KP.set KK.out (.inl GW3.out) _) (.inl GW3.out) _) (.inl GW3.out) _) (.inl GW3.out) _) (.inl GW3.out) _)⟩
set_option maxHeartbeats 8000000 in
set_option maxRecDepth 100000 in
theorem lunisolar_Date.calls (k : Nat) (a0 : Int) (r1 r2 r3 r4 : Int) (r5 : Bool) (r6 : Int) (w : World) (h : lunisolar_Date.f k a0 = some (r1, r2, r3, r4, r5, r6)) :
    Calls Try.prog 25 #[.int .i64 a0] w fun e w' => e = .returned (.tuple #[.agg #[.int .i64 r1, .int .i64 r2, .int .i64 r3, .int .i64 r4, .bool r5], .int .i64 r6]) ∧ Below w.heap.size w w' := by
  have hu34 := Try.underlying34
  unfold lunisolar_Date.f at h
  by_cases h1 : a0 < 0
  · rw [if_pos h1] at h
    simp only [Option.some.injEq, Prod.mk.injEq] at h
    obtain ⟨rfl, rfl, rfl, rfl, rfl, rfl⟩ := h
    have b1 : decide (a0 < 0) = true := decide_eq_true h1
    clear h1
    go_enter Try.func25, Try.ntmps25
    go_upto_region 1 with (first | ((with_reducible refine gate_dst (N := 2) rfl ?_); refine box_event ?hg (N := 2) ?hd (cs := #[.int .i64 0, .int .i64 0, .int .i64 0, .int .i64 0, .bool false]) (t := 34) ?hr ?_; (case hd => rfl); (case hg => rfl); (case hr => first | (go_simp; done) | (go_simp; rfl)); intro g2 hg w1 hbox hb; have n2_ := Aside0.mk (below_step (Below.refl _ _) hb); have n3_ := Aside0.mk hbox; have n4_ : Aside0 (w.heap.size ≤ g2) := ⟨Nat.le_of_eq hg.symm⟩; have HB := n2_; have B2 := n3_; have G2 := n4_; clear n2_ n3_ n4_; clear hb hbox hg))
    (try simp only [Act.put, List.setIfInBounds_toArray, List.set_cons_zero, List.set_cons_succ])
    have e20 := (blk_cell B2.out 0).trans rfl
    have e21 := (blk_cell B2.out 1).trans rfl
    have e22 := (blk_cell B2.out 2).trans rfl
    have e23 := (blk_cell B2.out 3).trans rfl
    have e24 := (blk_cell B2.out 4).trans rfl
    have z2 := blk_frozen B2.out
    go_wp2
    refine bodyPost_ret (results_ct rfl _ _ g2 34 #[.int .i64 0, .int .i64 0, .int .i64 0, .int .i64 0, .bool false] (0, 0) _ rfl (blk_put (cs := #[.int .i64 0, .int .i64 0, .int .i64 0, .int .i64 0, .bool false]) (blk_put (cs := #[.int .i64 0, .int .i64 0, .int .i64 0, .int .i64 0, .bool false]) (blk_put (cs := #[.int .i64 0, .int .i64 0, .int .i64 0, .int .i64 0, .bool false]) (blk_put (cs := #[.int .i64 0, .int .i64 0, .int .i64 0, .int .i64 0, .bool false]) (blk_put (cs := #[.int .i64 0, .int .i64 0, .int .i64 0, .int .i64 0, .bool false]) B2.out 0 _ rfl) 1 _ rfl) 2 _ rfl) 3 _ rfl) 4 _ rfl) Try.underlying34 rfl (by kernel_rfl)) rfl ?_
    exact ⟨rfl, (below_set (below_set (below_set (below_set (below_set HB.out G2.out) G2.out) G2.out) G2.out) G2.out)⟩
  · rw [if_neg h1] at h
    have b1 : decide (a0 < 0) = false := decide_eq_false h1
    by_cases h2 : a0 > 999999
    · rw [if_pos h2] at h
      simp only [Option.some.injEq, Prod.mk.injEq] at h
      obtain ⟨rfl, rfl, rfl, rfl, rfl, rfl⟩ := h
      have b2 : decide (999999 < a0) = true := decide_eq_true h2
      clear h1 h2
      go_enter Try.func25, Try.ntmps25
      go_upto_region 1 with (first | ((with_reducible refine gate_dst (N := 2) rfl ?_); refine box_event ?hg (N := 2) ?hd (cs := #[.int .i64 0, .int .i64 0, .int .i64 0, .int .i64 0, .bool false]) (t := 34) ?hr ?_; (case hd => rfl); (case hg => rfl); (case hr => first | (go_simp; done) | (go_simp; rfl)); intro g2 hg w1 hbox hb; have n2_ := Aside0.mk (below_step (Below.refl _ _) hb); have n3_ := Aside0.mk hbox; have n4_ : Aside0 (w.heap.size ≤ g2) := ⟨Nat.le_of_eq hg.symm⟩; have HB := n2_; have B2 := n3_; have G2 := n4_; clear n2_ n3_ n4_; clear hb hbox hg))
      (try simp only [Act.put, List.setIfInBounds_toArray, List.set_cons_zero, List.set_cons_succ])
      have e20 := (blk_cell B2.out 0).trans rfl
      have e21 := (blk_cell B2.out 1).trans rfl
      have e22 := (blk_cell B2.out 2).trans rfl
      have e23 := (blk_cell B2.out 3).trans rfl
      have e24 := (blk_cell B2.out 4).trans rfl
      have z2 := blk_frozen B2.out
      go_wp2
      refine bodyPost_ret (results_ct rfl _ _ g2 34 #[.int .i64 0, .int .i64 0, .int .i64 0, .int .i64 0, .bool false] (0, 0) _ rfl (blk_put (cs := #[.int .i64 0, .int .i64 0, .int .i64 0, .int .i64 0, .bool false]) (blk_put (cs := #[.int .i64 0, .int .i64 0, .int .i64 0, .int .i64 0, .bool false]) (blk_put (cs := #[.int .i64 0, .int .i64 0, .int .i64 0, .int .i64 0, .bool false]) (blk_put (cs := #[.int .i64 0, .int .i64 0, .int .i64 0, .int .i64 0, .bool false]) (blk_put (cs := #[.int .i64 0, .int .i64 0, .int .i64 0, .int .i64 0, .bool false]) B2.out 0 _ rfl) 1 _ rfl) 2 _ rfl) 3 _ rfl) 4 _ rfl) Try.underlying34 rfl (by kernel_rfl)) rfl ?_
      exact ⟨rfl, (below_set (below_set (below_set (below_set (below_set HB.out G2.out) G2.out) G2.out) G2.out) G2.out)⟩
    · rw [if_neg h2] at h
      have b2 : decide (999999 < a0) = false := decide_eq_false h2
      clear h1 h2
      have H' := Aside0.mk h
      clear h
      go_enter Try.func25, Try.ntmps25
      go_wp2_with (first | ((with_reducible refine gate_dst (N := 2) rfl ?_); refine box_event ?hg (N := 2) ?hd (cs := #[.int .i64 0, .int .i64 0, .int .i64 0, .int .i64 0, .bool false]) (t := 34) ?hr ?_; (case hd => rfl); (case hg => rfl); (case hr => first | (go_simp; done) | (go_simp; rfl)); intro g2 hg w1 hbox hb; have n2_ := Aside0.mk (below_step (Below.refl _ _) hb); have n3_ := Aside0.mk hbox; have n4_ : Aside0 (w.heap.size ≤ g2) := ⟨Nat.le_of_eq hg.symm⟩; have HB := n2_; have B2 := n3_; have G2 := n4_; clear n2_ n3_ n4_; clear hb hbox hg) | ((with_reducible refine gate_dst (N := 5) rfl ?_); refine box_event ?hg (N := 5) ?hd (cs := #[.int .i64 0]) (t := 3) ?hr ?_; (case hd => rfl); (case hg => rfl); (case hr => first | (go_simp; done) | (go_simp; rfl)); intro g5 hg w5 hbox hb; have n1_ := Aside0.mk (blk_below B2.out hb); have n2_ := Aside0.mk (below_step HB.out hb); have n3_ := Aside0.mk hbox; have n4_ : Aside0 (w.heap.size ≤ g5) := ⟨by rw [hg]; exact below_size HB.out⟩; have n5_ : Aside0 (g5 ≠ g2) := ⟨by rw [hg]; exact Nat.ne_of_gt (blk_lt B2.out)⟩; clear B2 HB; have B2 := n1_; have HB := n2_; have B5 := n3_; have G5 := n4_; have N52 := n5_; clear n1_ n2_ n3_ n4_ n5_; clear hb hbox hg; have e5 := (blk_cell B5.out 0).trans rfl; have z5 := blk_frozen B5.out))
      go_loopg [4] k (fun kq v4 w' => ∃ (y r : Int), v4 = .int .i64 y ∧ Aside0 (lunisolar_Date.l0 kq y r = some (r1, r2, r3, r4, r5, r6)) ∧ Aside0 (kq ≤ k) ∧ Aside0 (w'.heap[g2]? = some (.cells #[.int .i64 0, .int .i64 0, .int .i64 0, .int .i64 0, .bool false] 34 (0, 0))) ∧ Aside0 (w'.heap[g5]? = some (.cells #[.int .i64 r] 3 (0, 0))) ∧ Aside0 (Below w.heap.size w w'))
      case atStart => exact ⟨_, _, rfl, H', ⟨Nat.le_refl _⟩, ⟨blk_far B2.out (p := ⟨g5, 0, none⟩) (Ne.symm N52.out) _⟩, ⟨blk_put (cs := #[.int .i64 0]) B5.out 0 _ rfl⟩, ⟨below_set HB.out G5.out⟩⟩
      case round =>
        clear H' B2 B5 HB e5 z5
        obtain ⟨y, r, rfl, HA, HK, B2, B5, HB⟩ := hrel
        cases gk with
        | zero => exact absurd HA.out (by simp [lunisolar_Date.l0])
        | succ k1 =>
          have H := HA.out
          clear HA
          simp only [lunisolar_Date.l0] at H
          obtain ⟨n, A, H⟩ := Option.bind_eq_some_iff.mp H
          have AY := Aside0.mk A
          clear A
          have e5 := (blk_cell B5.out 0).trans rfl
          have z5 := blk_frozen B5.out
          by_cases c1 : r ≥ n
          · rw [if_pos c1] at H
            have c1b : decide (n ≤ r) = true := decide_eq_true c1
            have H' := Aside0.mk H
            clear H c1
            go_wp2_with (fail)
            go_quiet ((go_at_call 16; exact Calls.quiet_of ((lunisolar_YearDays.calls y n _ AY.out).mono fun e w' hq => ⟨hq.1, hq.2.out⟩)))
            go_wp2_with (fail)
            go_region_with (go_at_call 16; (with_reducible refine (lunisolar_YearDays.calls y n _ AY.out).mono ?_); rintro e w' ⟨rfl, ⟨nd, rfl⟩⟩)
            all_goals go_wp2
            all_goals
              go_roundg k1
              case measure => have := HK.out; omega
              case rel => exact ⟨_, _, rfl, H', ⟨by have := HK.out; omega⟩, ⟨by (with_reducible repeat (first | refine blk_drewN ?_ _ | refine blk_drew ?_ | refine blk_alloc ?_ _)); refine blk_far ?_ (p := ⟨g5, 0, none⟩) (Ne.symm N52.out) _; (with_reducible repeat (first | refine blk_drewN ?_ _ | refine blk_drew ?_ | refine blk_alloc ?_ _)); exact B2.out⟩, ⟨by (with_reducible repeat (first | refine blk_drewN ?_ _ | refine blk_drew ?_ | refine blk_alloc ?_ _)); refine blk_put (cs := #[.int .i64 r]) ?_ 0 _ rfl; (with_reducible repeat (first | refine blk_drewN ?_ _ | refine blk_drew ?_ | refine blk_alloc ?_ _)); exact B5.out⟩, ⟨by (with_reducible repeat (first | apply below_alloc | apply pw_below_drewN | apply below_drew1 | refine below_set ?_ G5.out | refine below_set ?_ G2.out)); exact HB.out⟩⟩
          · rw [if_neg c1] at H
            have c1b : decide (n ≤ r) = false := decide_eq_false c1
            obtain ⟨ms, A, H⟩ := Option.bind_eq_some_iff.mp H
            have AM := Aside0.mk A
            clear A
            obtain ⟨⟨d1, d2, d3, d4, d5⟩, A, H⟩ := Option.bind_eq_some_iff.mp H
            have AD := Aside0.mk A
            clear A
            simp only [Option.some.injEq, Prod.mk.injEq] at H
            obtain ⟨rfl, rfl, rfl, rfl, rfl, rfl⟩ := H
            clear c1
            go_wp2_with (fail)
            go_quiet ((go_at_call 16; exact Calls.quiet_of ((lunisolar_YearDays.calls y n _ AY.out).mono fun e w' hq => ⟨hq.1, hq.2.out⟩)))
            go_wp2_with (first | (go_at_call 20; (with_reducible refine (lunisolar_Months.calls k1 y ms _ AM.out).mono ?_); rintro e w6 ⟨v6, rfl, ho, hb⟩; have n1_ := Aside0.mk (blk_below (by (with_reducible repeat (first | refine blk_drewN ?_ _ | refine blk_drew ?_ | refine blk_alloc ?_ _)); exact B2.out) hb); have n2_ := Aside0.mk (blk_below (by (with_reducible repeat (first | refine blk_drewN ?_ _ | refine blk_drew ?_ | refine blk_alloc ?_ _)); exact B5.out) hb); have n3_ := Aside0.mk (below_step (by (with_reducible repeat (first | apply below_alloc | apply pw_below_drewN | apply below_drew1 | refine below_set ?_ G5.out | refine below_set ?_ G2.out)); exact HB.out) hb); have n4_ := Aside0.mk (Kd.R_lower ho (below_size (by (with_reducible repeat (first | apply below_alloc | apply pw_below_drewN | apply below_drew1 | refine below_set ?_ G5.out | refine below_set ?_ G2.out)); exact HB.out))); clear B2 B5 HB ho hb; have B2 := n1_; have B5 := n2_; have HB := n3_; have HO := n4_; clear n1_ n2_ n3_ n4_) | (go_at_call 32; (with_reducible refine (lunisolar_Date_1.calls k1 ms r d1 d2 d3 d4 d5 g5 v6 w _ (by (with_reducible repeat (first | apply below_alloc | apply pw_below_drewN | apply below_drew1 | refine below_set ?_ G5.out | refine below_set ?_ G2.out)); exact HB.out) G5.out HO.out B5.out AD.out).mono ?_); rintro e w7 ⟨rfl, hb, hk⟩; have n1_ := Aside0.mk (hk.blk (Ne.symm N52.out) B2.out); have n2_ := Aside0.mk hb; clear B2 HB B5 HO hb hk; have B2 := n1_; have HB := n2_; clear n1_ n2_; have e20 := (blk_cell B2.out 0).trans rfl; have e21 := (blk_cell B2.out 1).trans rfl; have e22 := (blk_cell B2.out 2).trans rfl; have e23 := (blk_cell B2.out 3).trans rfl; have e24 := (blk_cell B2.out 4).trans rfl; have z2 := blk_frozen B2.out))
            refine bodyPost_ret (results_ct rfl _ _ g2 34 #[.int .i64 d1, .int .i64 d2, .int .i64 d3, .int .i64 d4, .bool d5] (0, 0) _ rfl (blk_put (cs := #[.int .i64 d1, .int .i64 d2, .int .i64 d3, .int .i64 d4, .bool false]) (blk_put (cs := #[.int .i64 d1, .int .i64 d2, .int .i64 d3, .int .i64 0, .bool false]) (blk_put (cs := #[.int .i64 d1, .int .i64 d2, .int .i64 0, .int .i64 0, .bool false]) (blk_put (cs := #[.int .i64 d1, .int .i64 0, .int .i64 0, .int .i64 0, .bool false]) (blk_put (cs := #[.int .i64 0, .int .i64 0, .int .i64 0, .int .i64 0, .bool false]) B2.out 0 _ rfl) 1 _ rfl) 2 _ rfl) 3 _ rfl) 4 _ rfl) Try.underlying34 rfl (by kernel_rfl)) rfl ?_
            exact ⟨rfl, (below_set (below_set (below_set (below_set (below_set HB.out G2.out) G2.out) G2.out) G2.out) G2.out)⟩

end Go.Proofs.Ytfpegmnjplagfaa.C
