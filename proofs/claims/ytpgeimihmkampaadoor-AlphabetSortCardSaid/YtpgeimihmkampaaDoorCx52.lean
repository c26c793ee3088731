-- WRITTEN BY mkprint.py, a program of this session, over the kit's print of the given program. Not trusted: Lean checks it.
import Derived.Test.YtpgeimihmkampaaDoorCx0
import Derived.Test.YtpgeimihmkampaaDoorCx1
import Derived.Test.YtpgeimihmkampaaDoorCx27
namespace Go.Proofs.YtpgeimihmkampaaDoor.C
open Go.RowKit Go.Proofs.YtpgeimihmkampaaDoorW.PrintWords Go.Proofs.YtpgeimihmkampaaDoorW.PrintLast Go.Proofs.YtpgeimihmkampaaDoorW.PrintMore
attribute [local go_sem] max2_int min2_int max_two min_two max_three min_three max_four min_four   -- for this text's walks alone
set_option linter.unusedVariables false
set_option linter.unusedSimpArgs false

/-! ### pentaglotref01_Sort: function 38 -/
set_option maxHeartbeats 8000000 in
set_option maxRecDepth 100000 in
theorem pentaglotref01_Sort.calls (k : Nat) (A0 : Option Addr) (c0 : Nat) (l0 : List (S42)) (A1 : Option Addr) (c1 : Nat) (l1 : List ByteArray) (r : List ByteArray) (w : World) (hr0 : Kd.C k42 w A0 l0.length l0) (hc0 : l0.length ≤ c0) (hr1 : Kd.C Kd.string w A1 l1.length l1) (hc1 : l1.length ≤ c1) (h : pentaglotref01_Sort.f k l0 l1 = some r) :
    Calls Tryd.prog 38 #[.slice A0 l0.length c0, .slice A1 l1.length c1] w fun e w' => ∃ v0_ : Value, e = .returned (v0_) ∧ Kd.R Kd.string 9 w' w.heap.size (fun _ => True) v0_ r ∧ Below w.heap.size w w' := by
  have HR0 := Aside0.mk hr0
  have HC0 := Aside0.mk hc0
  clear hr0 hc0
  have HR1 := Aside0.mk hr1
  have HC1 := Aside0.mk hc1
  clear hr1 hc1
  have HB := Aside0.mk (Below.refl w.heap.size w)
  have H : (pentaglotref01_Sort.l0 k l0 (([] : List ByteArray)) l1 (l1.length : Int) 0) = some r := h
  clear h
  obtain ⟨y311, hy311⟩ : ∃ y_ : List ByteArray, y_ = (([] : List ByteArray)) := ⟨_, rfl⟩
  replace H : (pentaglotref01_Sort.l0 k l0 y311 l1 (l1.length : Int) 0) = some r := by first | (rw [hy311]; with_reducible exact H) | (have H2_ := (Option.bind_some _ _).symm.trans H; rw [hy311]; with_reducible exact H2_) | (have H2_ := (Option.bind_some _ _).symm.trans H; with_reducible exact H2_) | with_reducible exact H | (rw [hy311]; exact H) | exact H
  have Ny311 := Aside0.mk hy311
  clear hy311
  have H' := Aside0.mk H
  clear H
  go_enter Tryd.func38, Tryd.ntmps38
  go_wp2_with (first | ((with_reducible refine gate_dst (N := 10) rfl ?_); refine Kd.R_lit Kd.string _ 9 ?hg (N := 10) ?hd (xs := ([] : List ByteArray)) (inner := []) (ok := fun _ => True) (okp := fun _ => True) ?hr ?hp (fun _ hk => hk) trivial (Below.refl _ _) (Nat.le_refl _) (by simp) ?_; (case hd => rfl); (case hg => rfl); (case hr => first | (go_simp; done) | (go_simp; rfl)); (case hp => exact (Reps.none _ _)); intro v312 w3 ho4 hb hg_ hnew_; clear hg_ hnew_; (first | rw [← Ny311.out] at ho4 | (simp only [Int.reduceToNat] at ho4; rw [← Ny311.out] at ho4)); have n0_ := Aside0.mk (Kd.R_lower ho4 (below_size (by repeat (first | (with_reducible first | exact HB.out | apply below_alloc | apply pw_below_drewN | apply below_drew1) | exact HB.out)))); have n1_ := Aside0.mk (below_step (by repeat (first | (with_reducible first | exact HB.out | apply below_alloc | apply pw_below_drewN | apply below_drew1) | exact HB.out)) hb); clear HB; have HO313 := n0_; have HB := n1_; clear n0_ n1_; clear hb ho4))
  go_loopg [5, 13] k (fun kq v5 v13 w' => ∃ (x5_1 : List ByteArray) (x13_1 : Int), v13 = .int .i64 x13_1 ∧ Aside0 (pentaglotref01_Sort.l0 kq l0 x5_1 l1 (l1.length : Int) x13_1 = some r) ∧ Aside0 (kq ≤ k) ∧ Aside0 (Kd.R Kd.string 9 w' w.heap.size (fun _ => True) v5 x5_1) ∧ Aside0 (Below w.heap.size w w'))
  case atStart => exact ⟨(y311), (0), (by first | rfl | (simp; done) | (simp [*]; done)), H', ⟨Nat.le_refl _⟩, ⟨by (with_reducible repeat (first | apply Kd.R_alloc | apply Kd.R_drewN | apply Kd.R_drew)); exact HO313.out⟩, ⟨by repeat (first | (with_reducible first | exact HB.out | apply below_alloc | apply pw_below_drewN | apply below_drew1) | exact HB.out)⟩⟩
  case round =>
    clear H'
    try clear c1
    try clear p2
    try clear c3
    obtain ⟨x5_1, x13_1, rfl, HA, HK1, HO_5, HB⟩ := hrel
    cases gk with
    | zero => exact absurd HA.out (by simp [pentaglotref01_Sort.l0])
    | succ k1 =>
      have H := HA.out
      clear HA
      simp only [pentaglotref01_Sort.l0] at H
      by_cases c5 : x13_1 < (l1.length : Int)
      · rw [if_pos c5] at H
        have c5b0 : decide (x13_1 < (l1.length : Int)) = true := decide_eq_true c5
        clear c5
        by_cases c6 : 0 ≤ x13_1
        · rw [if_pos c6] at H
          have c6b0 : decide (0 ≤ x13_1) = true := decide_eq_true c6
          clear c6
          by_cases c7 : x13_1 < (l1.length : Int)
          · rw [if_pos c7] at H
            have c7b0 : decide (x13_1 < (l1.length : Int)) = true := decide_eq_true c7
            clear c7
            have H' := Aside0.mk H
            clear H
            have p314 : 0 ≤ (x13_1 : Int) := of_decide_eq_true (by first | (with_reducible assumption) | assumption)
            have q314 : x13_1 < (l1.length : Int) := of_decide_eq_true (by first | (with_reducible assumption) | assumption)
            obtain ⟨ad314, e314, hx314_0⟩ := Kd.at_string HR1.out x13_1 p314 q314
            cases e314
            replace hx314_0 := (HB.out.cell (World.block_lt_of_cell? w _ hx314_0)).trans hx314_0
            replace p314 := eq_true p314
            replace q314 := eq_true q314
            obtain ⟨Ao8, co8, eo8⟩ := Kd.R_slice HO_5.out
            subst eo8
            go_wp2
            go_loopg [8] k1 (fun kq v8 w' => ∃ (x8_2 : Int), v8 = .int .i64 x8_2 ∧ Aside0 (pentaglotref01_Sort.l1 kq l0 x5_1 (rdOf ByteArray.empty l1 x13_1) x8_2 l1 (l1.length : Int) x13_1 = some r) ∧ Aside0 (kq ≤ k1) ∧ Aside0 (Kd.R Kd.string 9 w' w.heap.size (fun _ => True) (.slice Ao8 x5_1.length co8) x5_1) ∧ Aside0 (Below w.heap.size w w'))
            case atStart => exact ⟨((x5_1.length : Int)), (by first | rfl | (simp; done) | (simp [*]; done)), H', ⟨Nat.le_refl _⟩, ⟨by (with_reducible repeat (first | apply Kd.R_alloc | apply Kd.R_drewN | apply Kd.R_drew)); exact HO_5.out⟩, ⟨by repeat (first | (with_reducible first | exact HB.out | apply below_alloc | apply pw_below_drewN | apply below_drew1) | exact HB.out)⟩⟩
            case round =>
              clear H'
              try clear c1
              try clear p2
              try clear c3
              try clear p3
              try clear q3
              try clear hx3
              try clear c5
              try clear c5b0
              try clear c6
              try clear c6b0
              try clear c7
              try clear c7b0
              try clear hx314_0
              try clear p2
              try clear p314
              try clear q314
              obtain ⟨x8_2, rfl, HA, HK2, HO_5, HB⟩ := hrel
              cases gk with
              | zero => exact absurd HA.out (by simp [pentaglotref01_Sort.l1])
              | succ k2 =>
                have H := HA.out
                clear HA
                simp only [pentaglotref01_Sort.l1] at H
                by_cases c9 : x8_2 > 0
                · rw [if_pos c9] at H
                  have c9b0 : decide (0 < x8_2) = true := decide_eq_true c9
                  clear c9
                  obtain ⟨ji10, hji10⟩ : ∃ j_ : Int, (wrap64 (x8_2 - 1)) = j_ := ⟨_, rfl⟩
                  replace H : (if 0 ≤ (ji10) then (if (ji10) < (x5_1.length : Int) then ((pentaglotref01_Compare.f k2 l0 (rdOf ByteArray.empty x5_1 (ji10)) (rdOf ByteArray.empty l1 x13_1)).bind fun t316 => (if t316 > 0 then (pentaglotref01_Sort.l1 k2 l0 x5_1 (rdOf ByteArray.empty l1 x13_1) ji10 l1 (l1.length : Int) x13_1) else ((some (([] : List ByteArray) : List ByteArray)).bind fun y317 => (if 0 ≤ x8_2 then (if x8_2 ≤ (x5_1.length : Int) then ((some (x5_1.take (x8_2 : Int).toNat : List ByteArray)).bind fun y320 => (if y317.length + y320.length < 8796093022208 then ((some (y317 ++ y320 : List ByteArray)).bind fun y324 => (if y324.length < 8796093022208 then ((some (y324 ++ [(rdOf ByteArray.empty l1 x13_1)] : List ByteArray)).bind fun y327 => ((some (x5_1.drop (x8_2 : Int).toNat : List ByteArray)).bind fun y330 => (if y327.length + y330.length < 8796093022208 then (pentaglotref01_Sort.l0 k2 l0 (y327 ++ y330) l1 (l1.length : Int) (wrap64 (x13_1 + 1))) else (none)))) else (none))) else (none))) else (none)) else (none))))) else (none)) else (none)) = some r := by first | (rw [hji10] at H; exact H) | (simp only [hji10] at H ⊢; exact H)
                  have hji10w : (IntKind.i64.wrap (x8_2 - 1)) = ji10 := (i64_w _).trans hji10
                  by_cases c11 : 0 ≤ (ji10)
                  · rw [if_pos c11] at H
                    have c11b0 : decide (0 ≤ (ji10)) = true := decide_eq_true c11
                    clear c11
                    by_cases c12 : (ji10) < (x5_1.length : Int)
                    · rw [if_pos c12] at H
                      have c12b0 : decide ((ji10) < (x5_1.length : Int)) = true := decide_eq_true c12
                      clear c12
                      replace H := Option.bind_eq_some_iff.mp H
                      obtain ⟨t316, A130, H⟩ := H
                      replace H : (if t316 > 0 then (pentaglotref01_Sort.l1 k2 l0 x5_1 (rdOf ByteArray.empty l1 x13_1) ji10 l1 (l1.length : Int) x13_1) else ((some (([] : List ByteArray) : List ByteArray)).bind fun y317 => (if 0 ≤ x8_2 then (if x8_2 ≤ (x5_1.length : Int) then ((some (x5_1.take (x8_2 : Int).toNat : List ByteArray)).bind fun y320 => (if y317.length + y320.length < 8796093022208 then ((some (y317 ++ y320 : List ByteArray)).bind fun y324 => (if y324.length < 8796093022208 then ((some (y324 ++ [(rdOf ByteArray.empty l1 x13_1)] : List ByteArray)).bind fun y327 => ((some (x5_1.drop (x8_2 : Int).toNat : List ByteArray)).bind fun y330 => (if y327.length + y330.length < 8796093022208 then (pentaglotref01_Sort.l0 k2 l0 (y327 ++ y330) l1 (l1.length : Int) (wrap64 (x13_1 + 1))) else (none)))) else (none))) else (none))) else (none)) else (none)))) = some r := H
                      have A13 := Aside0.mk A130
                      clear A130
                      by_cases c14 : t316 > 0
                      · rw [if_pos c14] at H
                        have c14b0 : decide (0 < t316) = true := decide_eq_true c14
                        clear c14
                        have H' := Aside0.mk H
                        clear H
                        have p315 : 0 ≤ ((ji10) : Int) := of_decide_eq_true (by first | (with_reducible assumption) | assumption)
                        have q315 : (ji10) < (x5_1.length : Int) := of_decide_eq_true (by first | (with_reducible assumption) | assumption)
                        obtain ⟨ad315, e315, hx315_0⟩ := Kd.at_string (Kd.R_reads' HO_5.out).2.2 (ji10) p315 q315
                        cases e315
                        replace p315 := eq_true p315
                        replace q315 := eq_true q315
                        go_wp2_with (first | (go_at_call 24; (with_reducible refine (pentaglotref01_Compare.calls k2 _ _ l0 (rdOf ByteArray.empty x5_1 (ji10)) (rdOf ByteArray.empty l1 x13_1) t316 _ ?side1 ?side2 A13.out).mono ?_); (case side1 => repeat (first | exact (Kd.C_below HR0.out HB.out) | (with_reducible refine Kd.C_alloc ?_ _) | (with_reducible refine Kd.C_drewN ?_ _) | (with_reducible refine Kd.C_drew ?_))); (case side2 => exact HC0.out); rintro e w15 ⟨rfl, hb⟩; have n0_ := Aside0.mk (Kd.R_below (by (with_reducible repeat (first | apply Kd.R_alloc | apply Kd.R_drewN | apply Kd.R_drew)); exact HO_5.out) hb); have n1_ := Aside0.mk (below_step (by repeat (first | (with_reducible first | exact HB.out | apply below_alloc | apply pw_below_drewN | apply below_drew1) | exact HB.out)) hb); clear HO_5; clear HB; have HO_5 := n0_; have HB := n1_; clear n0_ n1_; (try clear hb); (try clear hb2); (try clear hk); (try clear hi)))
                        go_roundg k2
                        case measure => have := HK1.out; have := HK2.out; omega
                        case rel => exact ⟨(ji10), (by first | rfl | (simp; done) | (simp only [← hji10] <;> (first | rfl | simp)) | (simp [*]; done)), H', ⟨by have := HK1.out; have := HK2.out; omega⟩, ⟨by (with_reducible repeat (first | apply Kd.R_alloc | apply Kd.R_drewN | apply Kd.R_drew)); exact HO_5.out⟩, ⟨by repeat (first | (with_reducible first | exact HB.out | apply below_alloc | apply pw_below_drewN | apply below_drew1) | exact HB.out)⟩⟩
                      · rw [if_neg c14] at H
                        have c14b0 : decide (0 < t316) = false := decide_eq_false c14
                        clear c14
                        obtain ⟨y317, hy317⟩ : ∃ y_ : List ByteArray, y_ = (([] : List ByteArray)) := ⟨_, rfl⟩
                        replace H : (if 0 ≤ x8_2 then (if x8_2 ≤ (x5_1.length : Int) then ((some (x5_1.take (x8_2 : Int).toNat : List ByteArray)).bind fun y320 => (if y317.length + y320.length < 8796093022208 then ((some (y317 ++ y320 : List ByteArray)).bind fun y324 => (if y324.length < 8796093022208 then ((some (y324 ++ [(rdOf ByteArray.empty l1 x13_1)] : List ByteArray)).bind fun y327 => ((some (x5_1.drop (x8_2 : Int).toNat : List ByteArray)).bind fun y330 => (if y327.length + y330.length < 8796093022208 then (pentaglotref01_Sort.l0 k2 l0 (y327 ++ y330) l1 (l1.length : Int) (wrap64 (x13_1 + 1))) else (none)))) else (none))) else (none))) else (none)) else (none)) = some r := by first | (rw [hy317]; with_reducible exact H) | (have H2_ := (Option.bind_some _ _).symm.trans H; rw [hy317]; with_reducible exact H2_) | (have H2_ := (Option.bind_some _ _).symm.trans H; with_reducible exact H2_) | with_reducible exact H | (rw [hy317]; exact H) | exact H
                        have Ny317 := Aside0.mk hy317
                        clear hy317
                        by_cases c16 : 0 ≤ x8_2
                        · rw [if_pos c16] at H
                          have c16b0 := eq_true c16
                          have c16b1 : decide (0 ≤ x8_2) = true := decide_eq_true c16
                          clear c16
                          by_cases c17 : x8_2 ≤ (x5_1.length : Int)
                          · rw [if_pos c17] at H
                            have c17b0 := eq_true c17
                            have c17b1 : decide (x8_2 ≤ (x5_1.length : Int)) = true := decide_eq_true c17
                            clear c17
                            obtain ⟨y320, hy320⟩ : ∃ y_ : List ByteArray, y_ = (x5_1.take (x8_2 : Int).toNat) := ⟨_, rfl⟩
                            replace H : (if y317.length + y320.length < 8796093022208 then ((some (y317 ++ y320 : List ByteArray)).bind fun y324 => (if y324.length < 8796093022208 then ((some (y324 ++ [(rdOf ByteArray.empty l1 x13_1)] : List ByteArray)).bind fun y327 => ((some (x5_1.drop (x8_2 : Int).toNat : List ByteArray)).bind fun y330 => (if y327.length + y330.length < 8796093022208 then (pentaglotref01_Sort.l0 k2 l0 (y327 ++ y330) l1 (l1.length : Int) (wrap64 (x13_1 + 1))) else (none)))) else (none))) else (none)) = some r := by first | (rw [hy320]; with_reducible exact H) | (have H2_ := (Option.bind_some _ _).symm.trans H; rw [hy320]; with_reducible exact H2_) | (have H2_ := (Option.bind_some _ _).symm.trans H; with_reducible exact H2_) | with_reducible exact H | (rw [hy320]; exact H) | exact H
                            have Ny320 := Aside0.mk hy320
                            clear hy320
                            by_cases c18 : y317.length + y320.length < 8796093022208
                            · rw [if_pos c18] at H
                              have LMc18 := Aside0.mk c18
                              clear c18
                              obtain ⟨y324, hy324⟩ : ∃ y_ : List ByteArray, y_ = (y317 ++ y320) := ⟨_, rfl⟩
                              replace H : (if y324.length < 8796093022208 then ((some (y324 ++ [(rdOf ByteArray.empty l1 x13_1)] : List ByteArray)).bind fun y327 => ((some (x5_1.drop (x8_2 : Int).toNat : List ByteArray)).bind fun y330 => (if y327.length + y330.length < 8796093022208 then (pentaglotref01_Sort.l0 k2 l0 (y327 ++ y330) l1 (l1.length : Int) (wrap64 (x13_1 + 1))) else (none)))) else (none)) = some r := by first | (rw [hy324]; with_reducible exact H) | (have H2_ := (Option.bind_some _ _).symm.trans H; rw [hy324]; with_reducible exact H2_) | (have H2_ := (Option.bind_some _ _).symm.trans H; with_reducible exact H2_) | with_reducible exact H | (rw [hy324]; exact H) | exact H
                              have Ny324 := Aside0.mk hy324
                              clear hy324
                              by_cases c19 : y324.length < 8796093022208
                              · rw [if_pos c19] at H
                                have LMc19 := Aside0.mk c19
                                clear c19
                                obtain ⟨y327, hy327⟩ : ∃ y_ : List ByteArray, y_ = (y324 ++ [(rdOf ByteArray.empty l1 x13_1)]) := ⟨_, rfl⟩
                                replace H : ((some (x5_1.drop (x8_2 : Int).toNat : List ByteArray)).bind fun y330 => (if y327.length + y330.length < 8796093022208 then (pentaglotref01_Sort.l0 k2 l0 (y327 ++ y330) l1 (l1.length : Int) (wrap64 (x13_1 + 1))) else (none))) = some r := by first | (rw [hy327]; with_reducible exact H) | (have H2_ := (Option.bind_some _ _).symm.trans H; rw [hy327]; with_reducible exact H2_) | (have H2_ := (Option.bind_some _ _).symm.trans H; with_reducible exact H2_) | with_reducible exact H | (rw [hy327]; exact H) | exact H
                                have Ny327 := Aside0.mk hy327
                                clear hy327
                                have c20b0 := eq_true (of_decide_eq_true (by first | (with_reducible assumption) | assumption) : 0 ≤ x8_2)
                                have c21b0 := eq_true (of_decide_eq_true (by first | (with_reducible assumption) | assumption) : x8_2 ≤ (x5_1.length : Int))
                                obtain ⟨y330, hy330⟩ : ∃ y_ : List ByteArray, y_ = (x5_1.drop (x8_2 : Int).toNat) := ⟨_, rfl⟩
                                replace H : (if y327.length + y330.length < 8796093022208 then (pentaglotref01_Sort.l0 k2 l0 (y327 ++ y330) l1 (l1.length : Int) (wrap64 (x13_1 + 1))) else (none)) = some r := by first | (rw [hy330]; with_reducible exact H) | (have H2_ := (Option.bind_some _ _).symm.trans H; rw [hy330]; with_reducible exact H2_) | (have H2_ := (Option.bind_some _ _).symm.trans H; with_reducible exact H2_) | with_reducible exact H | (rw [hy330]; exact H) | exact H
                                have Ny330 := Aside0.mk hy330
                                clear hy330
                                by_cases c22 : y327.length + y330.length < 8796093022208
                                · rw [if_pos c22] at H
                                  have LMc22 := Aside0.mk c22
                                  clear c22
                                  obtain ⟨y334, hy334⟩ : ∃ y_ : List ByteArray, y_ = (y327 ++ y330) := ⟨_, rfl⟩
                                  replace H : (pentaglotref01_Sort.l0 k2 l0 y334 l1 (l1.length : Int) (wrap64 (x13_1 + 1))) = some r := by first | (rw [hy334]; with_reducible exact H) | (have H2_ := (Option.bind_some _ _).symm.trans H; rw [hy334]; with_reducible exact H2_) | (have H2_ := (Option.bind_some _ _).symm.trans H; with_reducible exact H2_) | with_reducible exact H | (rw [hy334]; exact H) | exact H
                                  have Ny334 := Aside0.mk hy334
                                  clear hy334
                                  have H' := Aside0.mk H
                                  clear H
                                  have p315 : 0 ≤ ((ji10) : Int) := of_decide_eq_true (by first | (with_reducible assumption) | assumption)
                                  have q315 : (ji10) < (x5_1.length : Int) := of_decide_eq_true (by first | (with_reducible assumption) | assumption)
                                  obtain ⟨ad315, e315, hx315_0⟩ := Kd.at_string (Kd.R_reads' HO_5.out).2.2 (ji10) p315 q315
                                  cases e315
                                  replace p315 := eq_true p315
                                  replace q315 := eq_true q315
                                  go_wp2_with (first | (go_at_call 24; (with_reducible refine (pentaglotref01_Compare.calls k2 _ _ l0 (rdOf ByteArray.empty x5_1 (ji10)) (rdOf ByteArray.empty l1 x13_1) t316 _ ?side1 ?side2 A13.out).mono ?_); (case side1 => repeat (first | exact (Kd.C_below HR0.out HB.out) | (with_reducible refine Kd.C_alloc ?_ _) | (with_reducible refine Kd.C_drewN ?_ _) | (with_reducible refine Kd.C_drew ?_))); (case side2 => exact HC0.out); rintro e w23 ⟨rfl, hb⟩; have n0_ := Aside0.mk (Kd.R_below (by (with_reducible repeat (first | apply Kd.R_alloc | apply Kd.R_drewN | apply Kd.R_drew)); exact HO_5.out) hb); have n1_ := Aside0.mk (below_step (by repeat (first | (with_reducible first | exact HB.out | apply below_alloc | apply pw_below_drewN | apply below_drew1) | exact HB.out)) hb); clear HO_5; clear HB; have HO_5 := n0_; have HB := n1_; clear n0_ n1_; (try clear hb); (try clear hb2); (try clear hk); (try clear hi)) | ((with_reducible refine gate_dst (N := 34) rfl ?_); refine Kd.R_lit Kd.string _ 9 ?hg (N := 34) ?hd (xs := ([] : List ByteArray)) (inner := []) (ok := fun _ => True) (okp := fun _ => True) ?hr ?hp (fun _ hk => hk) trivial (Below.refl _ _) (Nat.le_refl _) (by simp) ?_; (case hd => rfl); (case hg => rfl); (case hr => first | (go_simp; done) | (go_simp; rfl)); (case hp => exact (Reps.none _ _)); intro v318 w24 ho25 hb hg_ hnew_; clear hg_ hnew_; (first | rw [← Ny317.out] at ho25 | (simp only [Int.reduceToNat] at ho25; rw [← Ny317.out] at ho25)); have n0_ := Aside0.mk (Kd.R_elder' (by (with_reducible repeat (first | apply Kd.R_alloc | apply Kd.R_drewN | apply Kd.R_drew)); exact HO_5.out) (Kd.R_base ho25) hb); have n1_ := Aside0.mk (Kd.R_lower (Kd.R_new' ho25 (Kd.R_lt (by (with_reducible repeat (first | apply Kd.R_alloc | apply Kd.R_drewN | apply Kd.R_drew)); exact HO_5.out))) (below_size (by repeat (first | (with_reducible first | exact HB.out | apply below_alloc | apply pw_below_drewN | apply below_drew1) | exact HB.out)))); have n2_ := Aside0.mk (below_step (by repeat (first | (with_reducible first | exact HB.out | apply below_alloc | apply pw_below_drewN | apply below_drew1) | exact HB.out)) hb); clear HO_5; clear HB; have HO_5 := n0_; have HO319 := n1_; have HB := n2_; clear n0_ n1_ n2_; clear hb ho25; have q26 : (x8_2 : Int) ≤ ((x5_1.length : Int) : Int) := of_decide_eq_true (by first | (with_reducible assumption) | assumption); obtain ⟨i026, hi026, _, hsz26, _⟩ := info_parts info9; have hroom26 : x5_1.length ≤ co8 := (Kd.R_reads' HO_5.out).2.1; have hC26 : Kd.C Kd.string _ (some ad315) x5_1.length x5_1 := (Kd.R_reads' HO_5.out).2.2; have hcut26 := cut_to (P := Tryd.prog) 33 9 .i64 Tryd.underlying33 hi026 (some ad315) x5_1.length co8 x8_2 (of_decide_eq_true (by first | (with_reducible assumption) | assumption)) q26 hroom26; have hr26 := Kd.C_take (m := (x8_2 : Int).toNat) hC26 (by omega); have hy26 : y320.length = (x8_2 : Int).toNat := (by rw [Ny320.out, List.length_take]; omega); rw [← Ny320.out] at hr26; rw [← hy26] at hcut26; have HR323 := Aside0.mk hr26; have HC323 := Aside0.mk (show y320.length ≤ co8 from by omega); clear hr26 hC26 hroom26 hi026 hsz26; have KY26 := Aside0.mk hy26; clear hy26; have KL26 := Aside0.mk (show (x8_2 : Int).toNat ≤ x5_1.length from by omega); replace q26 := eq_true q26) | ((with_reducible refine gate_builtin (b := .append) (xs := #[.tmp 34, .tmp 37]) rfl ?_); at_builtin; refine Kd.R_append_rows Kd.string (w0 := w) w.heap.size rfl (.tmp 34) (.tmp 37) 33 9 (.string ⟨#[]⟩) 16 rfl Tryd.underlying33 info9 rfl (by decide) (by omega) v318 y317 y320 _ _ _ (fun k_ => some k_ ≠ (.slice (some ad315) x5_1.length co8 : Value).ownBlock) (fun _ => False) rfl rfl ?aO ?aR (fun _ _ h => h) (fun _ h => h.elim) ?aF ?aB ?aS ?aL ?_; (case aR => repeat (first | exact (by repeat (first | (with_reducible exact HR323.out) | (with_reducible refine Kd.C_alloc ?_ _) | (with_reducible refine Kd.C_drewN ?_ _) | (with_reducible refine Kd.C_drew ?_) | exact HR323.out)) | (with_reducible refine Kd.C_alloc ?_ _) | (with_reducible refine Kd.C_drewN ?_ _) | (with_reducible refine Kd.C_drew ?_))); (case aB => exact (by repeat (first | (with_reducible first | exact HB.out | apply below_alloc | apply pw_below_drewN | apply below_drew1) | exact HB.out))); (case aF => exact (fun k_ hk => Kd.fresh' (Kd.R_lt (by (with_reducible repeat (first | apply Kd.R_alloc | apply Kd.R_drewN | apply Kd.R_drew)); exact HO_5.out)) k_ hk)); (case aO => exact (by (with_reducible repeat (first | apply Kd.R_alloc | apply Kd.R_drewN | apply Kd.R_drew)); exact Kd.R_mono HO319.out (fun _ hk => hk.2))); (case aS => exact (below_size (by repeat (first | (with_reducible first | exact HB.out | apply below_alloc | apply pw_below_drewN | apply below_drew1) | exact HB.out)))); (case aL => have := LMc18.out; omega); intro v325 w27 ho hb hg hat; rw [← Ny324.out] at ho; have n0_ := Aside0.mk (Kd.R_after (ok := (fun _ => True)) (by (with_reducible repeat (first | apply Kd.R_alloc | apply Kd.R_drewN | apply Kd.R_drew)); exact HO_5.out) hg hat); have n1_ := Aside0.mk (hb); have n2_ := Aside0.mk ((show Kd.C Kd.string w27 (some ad315) y320.length y320 from by rw [Ny320.out]; exact Kd.C_take (m := (x8_2 : Int).toNat) ((Kd.R_reads' (Kd.R_after (ok := (fun _ => True)) (by (with_reducible repeat (first | apply Kd.R_alloc | apply Kd.R_drewN | apply Kd.R_drew)); exact HO_5.out) hg hat)).2.2) KL26.out)); have n3_ := Aside0.mk (ho); clear HO_5; clear HB; clear HR323; clear HO319; have HO_5 := n0_; have HB := n1_; have HR323 := n2_; have HO326 := n3_; clear n0_ n1_ n2_ n3_; clear ho hb hg hat) | ((with_reducible refine gate_builtin (b := .append) (xs := #[.tmp 39, .tmp 41]) rfl ?_); at_builtin; refine Kd.R_append Kd.string (w0 := w) w.heap.size rfl (.tmp 39) (.tmp 41) 33 9 (.string ⟨#[]⟩) 16 rfl Tryd.underlying33 info9 rfl (by decide) (by omega) v325 y324 (rdOf ByteArray.empty l1 x13_1) [.string (rdOf ByteArray.empty l1 x13_1)] (fun k_ => some k_ ≠ (.slice (some ad315) x5_1.length co8 : Value).ownBlock) (fun _ => False) rfl rfl ?aP (fun _ hk => hk.elim) ?aF ?aO ?aB ?aS ?aL ?_; (case aP => exact rfl); (case aB => exact (by repeat (first | (with_reducible first | exact HB.out | apply below_alloc | apply pw_below_drewN | apply below_drew1) | exact HB.out))); (case aF => exact (fun k_ hk => Kd.fresh' (Kd.R_lt (by (with_reducible repeat (first | apply Kd.R_alloc | apply Kd.R_drewN | apply Kd.R_drew)); exact HO_5.out)) k_ hk)); (case aO => exact (by (with_reducible repeat (first | apply Kd.R_alloc | apply Kd.R_drewN | apply Kd.R_drew)); exact HO326.out)); (case aS => exact (below_size (by repeat (first | (with_reducible first | exact HB.out | apply below_alloc | apply pw_below_drewN | apply below_drew1) | exact HB.out)))); (case aL => have := LMc19.out; omega); intro v328 w28 ho hb hg hat; rw [← Ny327.out] at ho; have n0_ := Aside0.mk (Kd.R_after (ok := (fun _ => True)) (by (with_reducible repeat (first | apply Kd.R_alloc | apply Kd.R_drewN | apply Kd.R_drew)); exact HO_5.out) hg hat); have n1_ := Aside0.mk (hb); have n2_ := Aside0.mk ((show Kd.C Kd.string w28 (some ad315) y320.length y320 from by rw [Ny320.out]; exact Kd.C_take (m := (x8_2 : Int).toNat) ((Kd.R_reads' (Kd.R_after (ok := (fun _ => True)) (by (with_reducible repeat (first | apply Kd.R_alloc | apply Kd.R_drewN | apply Kd.R_drew)); exact HO_5.out) hg hat)).2.2) KL26.out)); have n3_ := Aside0.mk (ho); clear HO_5; clear HB; clear HR323; clear HO326; have HO_5 := n0_; have HB := n1_; have HR323 := n2_; have HO329 := n3_; clear n0_ n1_ n2_ n3_; clear ho hb hg hat; have q29 : (x8_2 : Int) ≤ ((x5_1.length : Int) : Int) := of_decide_eq_true (by first | (with_reducible assumption) | assumption); obtain ⟨i029, hi029, _, hsz29, _⟩ := info_parts info9; have hroom29 : x5_1.length ≤ co8 := (Kd.R_reads' HO_5.out).2.1; have hC29 : Kd.C Kd.string _ (some ad315) x5_1.length x5_1 := (Kd.R_reads' HO_5.out).2.2; have q029 : (0 : Int) ≤ (x8_2 : Int) := of_decide_eq_true (by first | (with_reducible assumption) | assumption); have hcut29 := cut_from (P := Tryd.prog) 33 9 .i64 Tryd.underlying33 hi029 1 hsz29 (some ad315) x5_1.length co8 x8_2 q029 q29; have hr29 := Kd.C_drop (m := (x8_2 : Int).toNat) (c := co8) hC29 (by omega) hroom29; obtain ⟨A29, hA29⟩ : ∃ A1, A1 = (if co8 = (x8_2 : Int).toNat then (some ad315) else ((some ad315) : Option Addr).map (·.add ((x8_2 : Int).toNat * 1))) := ⟨_, rfl⟩; obtain ⟨c29, hc29⟩ : ∃ c1, c1 = co8 - (x8_2 : Int).toNat := ⟨_, rfl⟩; have hy29 : y330.length = x5_1.length - (x8_2 : Int).toNat := (by rw [Ny330.out, List.length_drop] <;> omega); rw [show (x5_1).drop (x8_2 : Int).toNat = y330 from Ny330.out.symm] at hr29; replace hr29 : Kd.C Kd.string _ A29 y330.length y330 := (by rw [hA29]; exact hr29); rw [← hy29, ← hA29, ← hc29] at hcut29; have HR333 := Aside0.mk hr29; have HC333 := Aside0.mk (show y330.length ≤ c29 from by rw [hy29, hc29]; exact Nat.sub_le_sub_right hroom29 _); clear hr29 hC29 hroom29 hi029 hsz29 hc29; have KY29 := Aside0.mk hy29; have KA29 := Aside0.mk hA29; clear hy29 hA29; have KL29 := Aside0.mk (show (x8_2 : Int).toNat ≤ x5_1.length from by omega); replace q29 := eq_true q29) | ((with_reducible refine gate_builtin (b := .append) (xs := #[.tmp 43, .tmp 46]) rfl ?_); at_builtin; refine Kd.R_append_rows Kd.string (w0 := w) w.heap.size rfl (.tmp 43) (.tmp 46) 33 9 (.string ⟨#[]⟩) 16 rfl Tryd.underlying33 info9 rfl (by decide) (by omega) v328 y327 y330 _ _ _ (fun k_ => some k_ ≠ (.slice (some ad315) x5_1.length co8 : Value).ownBlock) (fun _ => False) rfl rfl ?aO ?aR (fun _ _ h => h) (fun _ h => h.elim) ?aF ?aB ?aS ?aL ?_; (case aR => repeat (first | exact (by repeat (first | (with_reducible exact HR333.out) | (with_reducible refine Kd.C_alloc ?_ _) | (with_reducible refine Kd.C_drewN ?_ _) | (with_reducible refine Kd.C_drew ?_) | exact HR333.out)) | (with_reducible refine Kd.C_alloc ?_ _) | (with_reducible refine Kd.C_drewN ?_ _) | (with_reducible refine Kd.C_drew ?_))); (case aB => exact (by repeat (first | (with_reducible first | exact HB.out | apply below_alloc | apply pw_below_drewN | apply below_drew1) | exact HB.out))); (case aF => exact (fun k_ hk => Kd.fresh' (Kd.R_lt (by (with_reducible repeat (first | apply Kd.R_alloc | apply Kd.R_drewN | apply Kd.R_drew)); exact HO_5.out)) k_ hk)); (case aO => exact (by (with_reducible repeat (first | apply Kd.R_alloc | apply Kd.R_drewN | apply Kd.R_drew)); exact HO329.out)); (case aS => exact (below_size (by repeat (first | (with_reducible first | exact HB.out | apply below_alloc | apply pw_below_drewN | apply below_drew1) | exact HB.out)))); (case aL => have := LMc22.out; omega); intro v335 w30 ho hb hg hat; rw [← Ny334.out] at ho; have n0_ := Aside0.mk (Kd.R_after (ok := (fun _ => True)) (by (with_reducible repeat (first | apply Kd.R_alloc | apply Kd.R_drewN | apply Kd.R_drew)); exact HO_5.out) hg hat); have n1_ := Aside0.mk (hb); have n2_ := Aside0.mk ((show Kd.C Kd.string w30 (some ad315) y320.length y320 from by rw [Ny320.out]; exact Kd.C_take (m := (x8_2 : Int).toNat) ((Kd.R_reads' (Kd.R_after (ok := (fun _ => True)) (by (with_reducible repeat (first | apply Kd.R_alloc | apply Kd.R_drewN | apply Kd.R_drew)); exact HO_5.out) hg hat)).2.2) KL26.out)); have n3_ := Aside0.mk ((show Kd.C Kd.string w30 A29 y330.length y330 from by rw [Ny330.out, KA29.out]; exact Kd.C_drop (m := (x8_2 : Int).toNat) (c := co8) ((Kd.R_reads' (Kd.R_after (ok := (fun _ => True)) (by (with_reducible repeat (first | apply Kd.R_alloc | apply Kd.R_drewN | apply Kd.R_drew)); exact HO_5.out) hg hat)).2.2) KL29.out ((Kd.R_reads' (Kd.R_after (ok := (fun _ => True)) (by (with_reducible repeat (first | apply Kd.R_alloc | apply Kd.R_drewN | apply Kd.R_drew)); exact HO_5.out) hg hat)).2.1))); have n4_ := Aside0.mk (ho); clear HO_5; clear HB; clear HR323; clear HR333; clear HO329; have HO_5 := n0_; have HB := n1_; have HR323 := n2_; have HR333 := n3_; have HO336 := n4_; clear n0_ n1_ n2_ n3_ n4_; clear ho hb hg hat))
                                  go_roundg k2
                                  case measure => have := HK1.out; have := HK2.out; omega
                                  case rel => exact ⟨(y334), (wrap64 (x13_1 + 1)), (by first | rfl | (simp; done) | (simp [*]; done)), H', ⟨by have := HK1.out; have := HK2.out; omega⟩, ⟨by (with_reducible repeat (first | apply Kd.R_alloc | apply Kd.R_drewN | apply Kd.R_drew)); exact Kd.R_mono HO336.out (fun _ hk => trivial)⟩, ⟨by repeat (first | (with_reducible first | exact HB.out | apply below_alloc | apply pw_below_drewN | apply below_drew1) | exact HB.out)⟩⟩
                                · rw [if_neg c22] at H
                                  exact absurd H (by simp)
                              · rw [if_neg c19] at H
                                exact absurd H (by simp)
                            · rw [if_neg c18] at H
                              exact absurd H (by simp)
                          · rw [if_neg c17] at H
                            exact absurd H (by simp)
                        · rw [if_neg c16] at H
                          exact absurd H (by simp)
                    · rw [if_neg c12] at H
                      exact absurd H (by simp)
                  · rw [if_neg c11] at H
                    exact absurd H (by simp)
                · rw [if_neg c9] at H
                  have c9b0 : decide (0 < x8_2) = false := decide_eq_false c9
                  clear c9
                  obtain ⟨y337, hy337⟩ : ∃ y_ : List ByteArray, y_ = (([] : List ByteArray)) := ⟨_, rfl⟩
                  replace H : (if 0 ≤ x8_2 then (if x8_2 ≤ (x5_1.length : Int) then ((some (x5_1.take (x8_2 : Int).toNat : List ByteArray)).bind fun y340 => (if y337.length + y340.length < 8796093022208 then ((some (y337 ++ y340 : List ByteArray)).bind fun y344 => (if y344.length < 8796093022208 then ((some (y344 ++ [(rdOf ByteArray.empty l1 x13_1)] : List ByteArray)).bind fun y347 => ((some (x5_1.drop (x8_2 : Int).toNat : List ByteArray)).bind fun y350 => (if y347.length + y350.length < 8796093022208 then (pentaglotref01_Sort.l0 k2 l0 (y347 ++ y350) l1 (l1.length : Int) (wrap64 (x13_1 + 1))) else (none)))) else (none))) else (none))) else (none)) else (none)) = some r := by first | (rw [hy337]; with_reducible exact H) | (have H2_ := (Option.bind_some _ _).symm.trans H; rw [hy337]; with_reducible exact H2_) | (have H2_ := (Option.bind_some _ _).symm.trans H; with_reducible exact H2_) | with_reducible exact H | (rw [hy337]; exact H) | exact H
                  have Ny337 := Aside0.mk hy337
                  clear hy337
                  by_cases c31 : 0 ≤ x8_2
                  · rw [if_pos c31] at H
                    have c31b0 := eq_true c31
                    have c31b1 : decide (0 ≤ x8_2) = true := decide_eq_true c31
                    clear c31
                    by_cases c32 : x8_2 ≤ (x5_1.length : Int)
                    · rw [if_pos c32] at H
                      have c32b0 := eq_true c32
                      have c32b1 : decide (x8_2 ≤ (x5_1.length : Int)) = true := decide_eq_true c32
                      clear c32
                      obtain ⟨y340, hy340⟩ : ∃ y_ : List ByteArray, y_ = (x5_1.take (x8_2 : Int).toNat) := ⟨_, rfl⟩
                      replace H : (if y337.length + y340.length < 8796093022208 then ((some (y337 ++ y340 : List ByteArray)).bind fun y344 => (if y344.length < 8796093022208 then ((some (y344 ++ [(rdOf ByteArray.empty l1 x13_1)] : List ByteArray)).bind fun y347 => ((some (x5_1.drop (x8_2 : Int).toNat : List ByteArray)).bind fun y350 => (if y347.length + y350.length < 8796093022208 then (pentaglotref01_Sort.l0 k2 l0 (y347 ++ y350) l1 (l1.length : Int) (wrap64 (x13_1 + 1))) else (none)))) else (none))) else (none)) = some r := by first | (rw [hy340]; with_reducible exact H) | (have H2_ := (Option.bind_some _ _).symm.trans H; rw [hy340]; with_reducible exact H2_) | (have H2_ := (Option.bind_some _ _).symm.trans H; with_reducible exact H2_) | with_reducible exact H | (rw [hy340]; exact H) | exact H
                      have Ny340 := Aside0.mk hy340
                      clear hy340
                      by_cases c33 : y337.length + y340.length < 8796093022208
                      · rw [if_pos c33] at H
                        have LMc33 := Aside0.mk c33
                        clear c33
                        obtain ⟨y344, hy344⟩ : ∃ y_ : List ByteArray, y_ = (y337 ++ y340) := ⟨_, rfl⟩
                        replace H : (if y344.length < 8796093022208 then ((some (y344 ++ [(rdOf ByteArray.empty l1 x13_1)] : List ByteArray)).bind fun y347 => ((some (x5_1.drop (x8_2 : Int).toNat : List ByteArray)).bind fun y350 => (if y347.length + y350.length < 8796093022208 then (pentaglotref01_Sort.l0 k2 l0 (y347 ++ y350) l1 (l1.length : Int) (wrap64 (x13_1 + 1))) else (none)))) else (none)) = some r := by first | (rw [hy344]; with_reducible exact H) | (have H2_ := (Option.bind_some _ _).symm.trans H; rw [hy344]; with_reducible exact H2_) | (have H2_ := (Option.bind_some _ _).symm.trans H; with_reducible exact H2_) | with_reducible exact H | (rw [hy344]; exact H) | exact H
                        have Ny344 := Aside0.mk hy344
                        clear hy344
                        by_cases c34 : y344.length < 8796093022208
                        · rw [if_pos c34] at H
                          have LMc34 := Aside0.mk c34
                          clear c34
                          obtain ⟨y347, hy347⟩ : ∃ y_ : List ByteArray, y_ = (y344 ++ [(rdOf ByteArray.empty l1 x13_1)]) := ⟨_, rfl⟩
                          replace H : ((some (x5_1.drop (x8_2 : Int).toNat : List ByteArray)).bind fun y350 => (if y347.length + y350.length < 8796093022208 then (pentaglotref01_Sort.l0 k2 l0 (y347 ++ y350) l1 (l1.length : Int) (wrap64 (x13_1 + 1))) else (none))) = some r := by first | (rw [hy347]; with_reducible exact H) | (have H2_ := (Option.bind_some _ _).symm.trans H; rw [hy347]; with_reducible exact H2_) | (have H2_ := (Option.bind_some _ _).symm.trans H; with_reducible exact H2_) | with_reducible exact H | (rw [hy347]; exact H) | exact H
                          have Ny347 := Aside0.mk hy347
                          clear hy347
                          have c35b0 := eq_true (of_decide_eq_true (by first | (with_reducible assumption) | assumption) : 0 ≤ x8_2)
                          have c36b0 := eq_true (of_decide_eq_true (by first | (with_reducible assumption) | assumption) : x8_2 ≤ (x5_1.length : Int))
                          obtain ⟨y350, hy350⟩ : ∃ y_ : List ByteArray, y_ = (x5_1.drop (x8_2 : Int).toNat) := ⟨_, rfl⟩
                          replace H : (if y347.length + y350.length < 8796093022208 then (pentaglotref01_Sort.l0 k2 l0 (y347 ++ y350) l1 (l1.length : Int) (wrap64 (x13_1 + 1))) else (none)) = some r := by first | (rw [hy350]; with_reducible exact H) | (have H2_ := (Option.bind_some _ _).symm.trans H; rw [hy350]; with_reducible exact H2_) | (have H2_ := (Option.bind_some _ _).symm.trans H; with_reducible exact H2_) | with_reducible exact H | (rw [hy350]; exact H) | exact H
                          have Ny350 := Aside0.mk hy350
                          clear hy350
                          by_cases c37 : y347.length + y350.length < 8796093022208
                          · rw [if_pos c37] at H
                            have LMc37 := Aside0.mk c37
                            clear c37
                            obtain ⟨y354, hy354⟩ : ∃ y_ : List ByteArray, y_ = (y347 ++ y350) := ⟨_, rfl⟩
                            replace H : (pentaglotref01_Sort.l0 k2 l0 y354 l1 (l1.length : Int) (wrap64 (x13_1 + 1))) = some r := by first | (rw [hy354]; with_reducible exact H) | (have H2_ := (Option.bind_some _ _).symm.trans H; rw [hy354]; with_reducible exact H2_) | (have H2_ := (Option.bind_some _ _).symm.trans H; with_reducible exact H2_) | with_reducible exact H | (rw [hy354]; exact H) | exact H
                            have Ny354 := Aside0.mk hy354
                            clear hy354
                            have H' := Aside0.mk H
                            clear H
                            go_wp2_with (first | ((with_reducible refine gate_dst (N := 34) rfl ?_); refine Kd.R_lit Kd.string _ 9 ?hg (N := 34) ?hd (xs := ([] : List ByteArray)) (inner := []) (ok := fun _ => True) (okp := fun _ => True) ?hr ?hp (fun _ hk => hk) trivial (Below.refl _ _) (Nat.le_refl _) (by simp) ?_; (case hd => rfl); (case hg => rfl); (case hr => first | (go_simp; done) | (go_simp; rfl)); (case hp => exact (Reps.none _ _)); intro v338 w38 ho39 hb hg_ hnew_; clear hg_ hnew_; (first | rw [← Ny337.out] at ho39 | (simp only [Int.reduceToNat] at ho39; rw [← Ny337.out] at ho39)); have n0_ := Aside0.mk (Kd.R_elder' (by (with_reducible repeat (first | apply Kd.R_alloc | apply Kd.R_drewN | apply Kd.R_drew)); exact HO_5.out) (Kd.R_base ho39) hb); have n1_ := Aside0.mk (Kd.R_lower (Kd.R_new' ho39 (Kd.R_lt (by (with_reducible repeat (first | apply Kd.R_alloc | apply Kd.R_drewN | apply Kd.R_drew)); exact HO_5.out))) (below_size (by repeat (first | (with_reducible first | exact HB.out | apply below_alloc | apply pw_below_drewN | apply below_drew1) | exact HB.out)))); have n2_ := Aside0.mk (below_step (by repeat (first | (with_reducible first | exact HB.out | apply below_alloc | apply pw_below_drewN | apply below_drew1) | exact HB.out)) hb); clear HO_5; clear HB; have HO_5 := n0_; have HO339 := n1_; have HB := n2_; clear n0_ n1_ n2_; clear hb ho39; have q40 : (x8_2 : Int) ≤ ((x5_1.length : Int) : Int) := of_decide_eq_true (by first | (with_reducible assumption) | assumption); obtain ⟨i040, hi040, _, hsz40, _⟩ := info_parts info9; have hroom40 : x5_1.length ≤ co8 := (Kd.R_reads' HO_5.out).2.1; have hC40 : Kd.C Kd.string _ Ao8 x5_1.length x5_1 := (Kd.R_reads' HO_5.out).2.2; have hcut40 := cut_to (P := Tryd.prog) 33 9 .i64 Tryd.underlying33 hi040 Ao8 x5_1.length co8 x8_2 (of_decide_eq_true (by first | (with_reducible assumption) | assumption)) q40 hroom40; have hr40 := Kd.C_take (m := (x8_2 : Int).toNat) hC40 (by omega); have hy40 : y340.length = (x8_2 : Int).toNat := (by rw [Ny340.out, List.length_take]; omega); rw [← Ny340.out] at hr40; rw [← hy40] at hcut40; have HR343 := Aside0.mk hr40; have HC343 := Aside0.mk (show y340.length ≤ co8 from by omega); clear hr40 hC40 hroom40 hi040 hsz40; have KY40 := Aside0.mk hy40; clear hy40; have KL40 := Aside0.mk (show (x8_2 : Int).toNat ≤ x5_1.length from by omega); replace q40 := eq_true q40) | ((with_reducible refine gate_builtin (b := .append) (xs := #[.tmp 34, .tmp 37]) rfl ?_); at_builtin; refine Kd.R_append_rows Kd.string (w0 := w) w.heap.size rfl (.tmp 34) (.tmp 37) 33 9 (.string ⟨#[]⟩) 16 rfl Tryd.underlying33 info9 rfl (by decide) (by omega) v338 y337 y340 _ _ _ (fun k_ => some k_ ≠ (.slice Ao8 x5_1.length co8 : Value).ownBlock) (fun _ => False) rfl rfl ?aO ?aR (fun _ _ h => h) (fun _ h => h.elim) ?aF ?aB ?aS ?aL ?_; (case aR => repeat (first | exact (by repeat (first | (with_reducible exact HR343.out) | (with_reducible refine Kd.C_alloc ?_ _) | (with_reducible refine Kd.C_drewN ?_ _) | (with_reducible refine Kd.C_drew ?_) | exact HR343.out)) | (with_reducible refine Kd.C_alloc ?_ _) | (with_reducible refine Kd.C_drewN ?_ _) | (with_reducible refine Kd.C_drew ?_))); (case aB => exact (by repeat (first | (with_reducible first | exact HB.out | apply below_alloc | apply pw_below_drewN | apply below_drew1) | exact HB.out))); (case aF => exact (fun k_ hk => Kd.fresh' (Kd.R_lt (by (with_reducible repeat (first | apply Kd.R_alloc | apply Kd.R_drewN | apply Kd.R_drew)); exact HO_5.out)) k_ hk)); (case aO => exact (by (with_reducible repeat (first | apply Kd.R_alloc | apply Kd.R_drewN | apply Kd.R_drew)); exact Kd.R_mono HO339.out (fun _ hk => hk.2))); (case aS => exact (below_size (by repeat (first | (with_reducible first | exact HB.out | apply below_alloc | apply pw_below_drewN | apply below_drew1) | exact HB.out)))); (case aL => have := LMc33.out; omega); intro v345 w41 ho hb hg hat; rw [← Ny344.out] at ho; have n0_ := Aside0.mk (Kd.R_after (ok := (fun _ => True)) (by (with_reducible repeat (first | apply Kd.R_alloc | apply Kd.R_drewN | apply Kd.R_drew)); exact HO_5.out) hg hat); have n1_ := Aside0.mk (hb); have n2_ := Aside0.mk ((show Kd.C Kd.string w41 Ao8 y340.length y340 from by rw [Ny340.out]; exact Kd.C_take (m := (x8_2 : Int).toNat) ((Kd.R_reads' (Kd.R_after (ok := (fun _ => True)) (by (with_reducible repeat (first | apply Kd.R_alloc | apply Kd.R_drewN | apply Kd.R_drew)); exact HO_5.out) hg hat)).2.2) KL40.out)); have n3_ := Aside0.mk (ho); clear HO_5; clear HB; clear HR343; clear HO339; have HO_5 := n0_; have HB := n1_; have HR343 := n2_; have HO346 := n3_; clear n0_ n1_ n2_ n3_; clear ho hb hg hat) | ((with_reducible refine gate_builtin (b := .append) (xs := #[.tmp 39, .tmp 41]) rfl ?_); at_builtin; refine Kd.R_append Kd.string (w0 := w) w.heap.size rfl (.tmp 39) (.tmp 41) 33 9 (.string ⟨#[]⟩) 16 rfl Tryd.underlying33 info9 rfl (by decide) (by omega) v345 y344 (rdOf ByteArray.empty l1 x13_1) [.string (rdOf ByteArray.empty l1 x13_1)] (fun k_ => some k_ ≠ (.slice Ao8 x5_1.length co8 : Value).ownBlock) (fun _ => False) rfl rfl ?aP (fun _ hk => hk.elim) ?aF ?aO ?aB ?aS ?aL ?_; (case aP => exact rfl); (case aB => exact (by repeat (first | (with_reducible first | exact HB.out | apply below_alloc | apply pw_below_drewN | apply below_drew1) | exact HB.out))); (case aF => exact (fun k_ hk => Kd.fresh' (Kd.R_lt (by (with_reducible repeat (first | apply Kd.R_alloc | apply Kd.R_drewN | apply Kd.R_drew)); exact HO_5.out)) k_ hk)); (case aO => exact (by (with_reducible repeat (first | apply Kd.R_alloc | apply Kd.R_drewN | apply Kd.R_drew)); exact HO346.out)); (case aS => exact (below_size (by repeat (first | (with_reducible first | exact HB.out | apply below_alloc | apply pw_below_drewN | apply below_drew1) | exact HB.out)))); (case aL => have := LMc34.out; omega); intro v348 w42 ho hb hg hat; rw [← Ny347.out] at ho; have n0_ := Aside0.mk (Kd.R_after (ok := (fun _ => True)) (by (with_reducible repeat (first | apply Kd.R_alloc | apply Kd.R_drewN | apply Kd.R_drew)); exact HO_5.out) hg hat); have n1_ := Aside0.mk (hb); have n2_ := Aside0.mk ((show Kd.C Kd.string w42 Ao8 y340.length y340 from by rw [Ny340.out]; exact Kd.C_take (m := (x8_2 : Int).toNat) ((Kd.R_reads' (Kd.R_after (ok := (fun _ => True)) (by (with_reducible repeat (first | apply Kd.R_alloc | apply Kd.R_drewN | apply Kd.R_drew)); exact HO_5.out) hg hat)).2.2) KL40.out)); have n3_ := Aside0.mk (ho); clear HO_5; clear HB; clear HR343; clear HO346; have HO_5 := n0_; have HB := n1_; have HR343 := n2_; have HO349 := n3_; clear n0_ n1_ n2_ n3_; clear ho hb hg hat; have q43 : (x8_2 : Int) ≤ ((x5_1.length : Int) : Int) := of_decide_eq_true (by first | (with_reducible assumption) | assumption); obtain ⟨i043, hi043, _, hsz43, _⟩ := info_parts info9; have hroom43 : x5_1.length ≤ co8 := (Kd.R_reads' HO_5.out).2.1; have hC43 : Kd.C Kd.string _ Ao8 x5_1.length x5_1 := (Kd.R_reads' HO_5.out).2.2; have q043 : (0 : Int) ≤ (x8_2 : Int) := of_decide_eq_true (by first | (with_reducible assumption) | assumption); have hcut43 := cut_from (P := Tryd.prog) 33 9 .i64 Tryd.underlying33 hi043 1 hsz43 Ao8 x5_1.length co8 x8_2 q043 q43; have hr43 := Kd.C_drop (m := (x8_2 : Int).toNat) (c := co8) hC43 (by omega) hroom43; obtain ⟨A43, hA43⟩ : ∃ A1, A1 = (if co8 = (x8_2 : Int).toNat then Ao8 else (Ao8 : Option Addr).map (·.add ((x8_2 : Int).toNat * 1))) := ⟨_, rfl⟩; obtain ⟨c43, hc43⟩ : ∃ c1, c1 = co8 - (x8_2 : Int).toNat := ⟨_, rfl⟩; have hy43 : y350.length = x5_1.length - (x8_2 : Int).toNat := (by rw [Ny350.out, List.length_drop] <;> omega); rw [show (x5_1).drop (x8_2 : Int).toNat = y350 from Ny350.out.symm] at hr43; replace hr43 : Kd.C Kd.string _ A43 y350.length y350 := (by rw [hA43]; exact hr43); rw [← hy43, ← hA43, ← hc43] at hcut43; have HR353 := Aside0.mk hr43; have HC353 := Aside0.mk (show y350.length ≤ c43 from by rw [hy43, hc43]; exact Nat.sub_le_sub_right hroom43 _); clear hr43 hC43 hroom43 hi043 hsz43 hc43; have KY43 := Aside0.mk hy43; have KA43 := Aside0.mk hA43; clear hy43 hA43; have KL43 := Aside0.mk (show (x8_2 : Int).toNat ≤ x5_1.length from by omega); replace q43 := eq_true q43) | ((with_reducible refine gate_builtin (b := .append) (xs := #[.tmp 43, .tmp 46]) rfl ?_); at_builtin; refine Kd.R_append_rows Kd.string (w0 := w) w.heap.size rfl (.tmp 43) (.tmp 46) 33 9 (.string ⟨#[]⟩) 16 rfl Tryd.underlying33 info9 rfl (by decide) (by omega) v348 y347 y350 _ _ _ (fun k_ => some k_ ≠ (.slice Ao8 x5_1.length co8 : Value).ownBlock) (fun _ => False) rfl rfl ?aO ?aR (fun _ _ h => h) (fun _ h => h.elim) ?aF ?aB ?aS ?aL ?_; (case aR => repeat (first | exact (by repeat (first | (with_reducible exact HR353.out) | (with_reducible refine Kd.C_alloc ?_ _) | (with_reducible refine Kd.C_drewN ?_ _) | (with_reducible refine Kd.C_drew ?_) | exact HR353.out)) | (with_reducible refine Kd.C_alloc ?_ _) | (with_reducible refine Kd.C_drewN ?_ _) | (with_reducible refine Kd.C_drew ?_))); (case aB => exact (by repeat (first | (with_reducible first | exact HB.out | apply below_alloc | apply pw_below_drewN | apply below_drew1) | exact HB.out))); (case aF => exact (fun k_ hk => Kd.fresh' (Kd.R_lt (by (with_reducible repeat (first | apply Kd.R_alloc | apply Kd.R_drewN | apply Kd.R_drew)); exact HO_5.out)) k_ hk)); (case aO => exact (by (with_reducible repeat (first | apply Kd.R_alloc | apply Kd.R_drewN | apply Kd.R_drew)); exact HO349.out)); (case aS => exact (below_size (by repeat (first | (with_reducible first | exact HB.out | apply below_alloc | apply pw_below_drewN | apply below_drew1) | exact HB.out)))); (case aL => have := LMc37.out; omega); intro v355 w44 ho hb hg hat; rw [← Ny354.out] at ho; have n0_ := Aside0.mk (Kd.R_after (ok := (fun _ => True)) (by (with_reducible repeat (first | apply Kd.R_alloc | apply Kd.R_drewN | apply Kd.R_drew)); exact HO_5.out) hg hat); have n1_ := Aside0.mk (hb); have n2_ := Aside0.mk ((show Kd.C Kd.string w44 Ao8 y340.length y340 from by rw [Ny340.out]; exact Kd.C_take (m := (x8_2 : Int).toNat) ((Kd.R_reads' (Kd.R_after (ok := (fun _ => True)) (by (with_reducible repeat (first | apply Kd.R_alloc | apply Kd.R_drewN | apply Kd.R_drew)); exact HO_5.out) hg hat)).2.2) KL40.out)); have n3_ := Aside0.mk ((show Kd.C Kd.string w44 A43 y350.length y350 from by rw [Ny350.out, KA43.out]; exact Kd.C_drop (m := (x8_2 : Int).toNat) (c := co8) ((Kd.R_reads' (Kd.R_after (ok := (fun _ => True)) (by (with_reducible repeat (first | apply Kd.R_alloc | apply Kd.R_drewN | apply Kd.R_drew)); exact HO_5.out) hg hat)).2.2) KL43.out ((Kd.R_reads' (Kd.R_after (ok := (fun _ => True)) (by (with_reducible repeat (first | apply Kd.R_alloc | apply Kd.R_drewN | apply Kd.R_drew)); exact HO_5.out) hg hat)).2.1))); have n4_ := Aside0.mk (ho); clear HO_5; clear HB; clear HR343; clear HR353; clear HO349; have HO_5 := n0_; have HB := n1_; have HR343 := n2_; have HR353 := n3_; have HO356 := n4_; clear n0_ n1_ n2_ n3_ n4_; clear ho hb hg hat))
                            go_roundg k2
                            case measure => have := HK1.out; have := HK2.out; omega
                            case rel => exact ⟨(y354), (wrap64 (x13_1 + 1)), (by first | rfl | (simp; done) | (simp [*]; done)), H', ⟨by have := HK1.out; have := HK2.out; omega⟩, ⟨by (with_reducible repeat (first | apply Kd.R_alloc | apply Kd.R_drewN | apply Kd.R_drew)); exact Kd.R_mono HO356.out (fun _ hk => trivial)⟩, ⟨by repeat (first | (with_reducible first | exact HB.out | apply below_alloc | apply pw_below_drewN | apply below_drew1) | exact HB.out)⟩⟩
                          · rw [if_neg c37] at H
                            exact absurd H (by simp)
                        · rw [if_neg c34] at H
                          exact absurd H (by simp)
                      · rw [if_neg c33] at H
                        exact absurd H (by simp)
                    · rw [if_neg c32] at H
                      exact absurd H (by simp)
                  · rw [if_neg c31] at H
                    exact absurd H (by simp)
          · rw [if_neg c7] at H
            exact absurd H (by simp)
        · rw [if_neg c6] at H
          exact absurd H (by simp)
      · rw [if_neg c5] at H
        have c5b0 : decide (x13_1 < (l1.length : Int)) = false := decide_eq_false c5
        clear c5
        obtain rfl := Option.some.inj H
        go_wp2
        go_ret
        exact ⟨_, by first | rfl | (simp [errW_none, errW_some] <;> rfl) | (simp [*, errW_none, errW_some] <;> rfl), by (with_reducible repeat (first | apply Kd.R_alloc | apply Kd.R_drewN | apply Kd.R_drew)); exact HO_5.out, by repeat (first | (with_reducible first | exact HB.out | apply below_alloc | apply pw_below_drewN | apply below_drew1) | exact HB.out)⟩

end Go.Proofs.YtpgeimihmkampaaDoor.C
