-- WRITTEN BY mkprint.py, a program of this session, over the kit's print of the given program. Not trusted: Lean checks it.
import Derived.Test.YtpgeimihmkampaaDoorCx0
import Derived.Test.YtpgeimihmkampaaDoorCx1
import Derived.Test.YtpgeimihmkampaaDoorCx12
import Derived.Test.YtpgeimihmkampaaDoorCx15
import Derived.Test.YtpgeimihmkampaaDoorCx16
import Derived.Test.YtpgeimihmkampaaDoorCx51
namespace Go.Proofs.YtpgeimihmkampaaDoor.C
open Go.RowKit Go.Proofs.YtpgeimihmkampaaDoorW.PrintWords Go.Proofs.YtpgeimihmkampaaDoorW.PrintLast Go.Proofs.YtpgeimihmkampaaDoorW.PrintMore
attribute [local go_sem] max2_int min2_int max_two min_two max_three min_three max_four min_four   -- for this text's walks alone
set_option linter.unusedVariables false
set_option linter.unusedSimpArgs false

/-! ### pentaglotlaw01_AlphabetSorted: function 15 -/
set_option maxHeartbeats 400000 in
theorem str_at {w : World} {A : Option Addr} {xs : List ByteArray} (h : Kd.C Kd.string w A xs.length xs) {m : Nat} (hm : m < xs.length) : ∃ ad, A = some ad ∧ w.cell? (ad.add m) = some (.string (rdOf ByteArray.empty xs (m : Int))) := by
  obtain ⟨ad, e, hc⟩ := Kd.at_string h (m : Int) (by omega) (by omega)
  exact ⟨ad, e, hc⟩
set_option maxHeartbeats 16000000 in
set_option maxRecDepth 100000 in
theorem pentaglotlaw01_AlphabetSorted.calls (k : Nat) (A0 : Option Addr) (c0 : Nat) (l0 : List (S42)) (A1 : Option Addr) (c1 : Nat) (l1 : List ByteArray) (a2 : ByteArray) (r : Bool) (w : World) (hr0 : Kd.C k42 w A0 l0.length l0) (hc0 : l0.length ≤ c0) (hr1 : Kd.C Kd.string w A1 l1.length l1) (hc1 : l1.length ≤ c1) (hG : Glob w) (h : pentaglotlaw01_AlphabetSorted.f k l0 l1 a2 = some r) :
    Calls Tryd.prog 15 #[.slice A0 l0.length c0, .slice A1 l1.length c1, .string a2] w fun e w' => e = .returned (.bool r) ∧ Below w.heap.size w w' := by
  have HG := Aside0.mk hG
  have HR0 := Aside0.mk hr0
  have HR1 := Aside0.mk hr1
  have HC0 := Aside0.mk hc0
  have HC1 := Aside0.mk hc1
  clear hG hr0 hr1
  unfold pentaglotlaw01_AlphabetSorted.f at h
  obtain ⟨t1, ha, h⟩ := Option.bind_eq_some_iff.mp h
  have HA := Aside0.mk ha
  cases k with
  | zero => exact absurd h (by cases t1 <;> simp [pentaglotlaw01_AlphabetSorted.j0, pentaglotlaw01_few.f, pentaglotlaw01_few.l0])
  | succ k =>
    cases t1 with
    | false =>
      rw [if_neg (by decide)] at h
      simp only [pentaglotlaw01_AlphabetSorted.j0, if_true] at h
      obtain ⟨t3, h3, h⟩ := Option.bind_eq_some_iff.mp h
      obtain rfl := Option.some.inj h
      have H3 := Aside0.mk h3
      clear h ha h3
      go_enter Tryd.func15, Tryd.ntmps15
      go_wp2_with (first | (go_at_call 16; first | ((with_reducible refine (pentaglotlaw01_awake.calls (k + 1) false _ HG.out HA.out).mono ?_); rintro e w1 ⟨rfl, hb⟩; have HB1 := Aside0.mk hb; have HG1 := Aside0.mk (Glob.below HG.out hb); clear hb HG) | ((with_reducible refine (pentaglotlaw01_awake.calls k t3 _ HG1.out H3.out).mono ?_); rintro e w2 ⟨rfl, hb⟩; have HB3 := Aside0.mk (below_step HB1.out hb); clear hb)))
      go_ret
      exact ⟨rfl, HB3.out⟩
    | true =>
      rw [if_pos rfl] at h
      obtain ⟨t2, hf, h⟩ := Option.bind_eq_some_iff.mp h
      have HF := Aside0.mk hf
      cases t2 with
      | false =>
        rw [if_neg (by decide)] at h
        simp only [pentaglotlaw01_AlphabetSorted.j0, if_true] at h
        obtain ⟨t3, h3, h⟩ := Option.bind_eq_some_iff.mp h
        obtain rfl := Option.some.inj h
        have H3 := Aside0.mk h3
        clear h ha h3 hf
        go_enter Tryd.func15, Tryd.ntmps15
        go_wp2_with (first | (go_at_call 16; first | ((with_reducible refine (pentaglotlaw01_awake.calls (k + 1) true _ HG.out HA.out).mono ?_); rintro e w1 ⟨rfl, hb⟩; have HB1 := Aside0.mk hb; have HG1 := Aside0.mk (Glob.below HG.out hb); clear hb HG) | ((with_reducible refine (pentaglotlaw01_awake.calls k t3 _ HG2.out H3.out).mono ?_); rintro e w2 ⟨rfl, hb⟩; have HB3 := Aside0.mk (below_step HB2.out hb); clear hb)) | (go_at_call 17; refine (pentaglotlaw01_few.calls (k + 1) _ _ l0 _ _ l1 false _ (Kd.C_below HR0.out HB1.out) HC0.out (Kd.C_below HR1.out HB1.out) HC1.out HF.out).mono ?_; rintro e w3 ⟨rfl, hd⟩; have HB2 := Aside0.mk (below_step HB1.out hd.below); have HG2 := Aside0.mk (Glob.below HG1.out hd.below); clear hd))
        go_ret
        exact ⟨rfl, HB3.out⟩
      | true =>
        rw [if_pos rfl] at h
        by_cases cz : (a2.size : Int) > 200
        · have z1 : decide ((200 : Int) < (a2.size : Int)) = true := decide_eq_true cz
          have z2 : decide (200 < a2.size) = true := decide_eq_true (by omega)
          rw [decide_eq_true cz] at h
          clear cz
          simp only [pentaglotlaw01_AlphabetSorted.j0, if_true] at h
          obtain ⟨t3, h3, h⟩ := Option.bind_eq_some_iff.mp h
          obtain rfl := Option.some.inj h
          have H3 := Aside0.mk h3
          clear h ha h3 hf
          go_enter Tryd.func15, Tryd.ntmps15
          go_wp2_with (first | (go_at_call 16; first | ((with_reducible refine (pentaglotlaw01_awake.calls (k + 1) true _ HG.out HA.out).mono ?_); rintro e w1 ⟨rfl, hb⟩; have HB1 := Aside0.mk hb; have HG1 := Aside0.mk (Glob.below HG.out hb); clear hb HG) | ((with_reducible refine (pentaglotlaw01_awake.calls k t3 _ HG2.out H3.out).mono ?_); rintro e w2 ⟨rfl, hb⟩; have HB3 := Aside0.mk (below_step HB2.out hb); clear hb)) | (go_at_call 17; refine (pentaglotlaw01_few.calls (k + 1) _ _ l0 _ _ l1 true _ (Kd.C_below HR0.out HB1.out) HC0.out (Kd.C_below HR1.out HB1.out) HC1.out HF.out).mono ?_; rintro e w3 ⟨rfl, hd⟩; have HB2 := Aside0.mk (below_step HB1.out hd.below); have HG2 := Aside0.mk (Glob.below HG1.out hd.below); clear hd))
          go_ret
          exact ⟨rfl, HB3.out⟩
        · have z1 : decide ((200 : Int) < (a2.size : Int)) = false := decide_eq_false cz
          have z2 : decide (200 < a2.size) = false := decide_eq_false (by omega)
          rw [decide_eq_false cz] at h
          simp only [pentaglotlaw01_AlphabetSorted.j0, Bool.false_eq_true, if_false] at h
          obtain ⟨x, h3, h⟩ := Option.bind_eq_some_iff.mp h
          have H3 := Aside0.mk h3
          have H4 := Aside0.mk h
          clear h ha h3 hf cz
          go_enter Tryd.func15, Tryd.ntmps15
          go_wp2_with (first | (go_at_call 16; (with_reducible refine (pentaglotlaw01_awake.calls (k + 1) true _ HG.out HA.out).mono ?_); rintro e w1 ⟨rfl, hb⟩; have HB1 := Aside0.mk hb; clear hb HG) | (go_at_call 17; refine (pentaglotlaw01_few.calls (k + 1) _ _ l0 _ _ l1 true _ (Kd.C_below HR0.out HB1.out) HC0.out (Kd.C_below HR1.out HB1.out) HC1.out HF.out).mono ?_; rintro e w3 ⟨rfl, hd⟩; have HB2 := Aside0.mk (below_step HB1.out hd.below); clear hd) | (go_at_call 37; refine (alphabet_Sort.calls k _ _ l0 _ _ l1 x _ (Kd.C_below HR0.out HB2.out) HC0.out (Kd.C_below HR1.out HB2.out) HC1.out H3.out).mono ?_; rintro e w4 ⟨A4, c4, rfl, hC, hc, hb⟩; have HX := Aside0.mk hC; have HB4 := Aside0.mk (below_step HB2.out hb); clear hC hc hb))
          have HXL := Aside0.mk (show x.length ≤ 9223372036854775807 from HX.out.2.1)
          have HWL := Aside0.mk (show l1.length ≤ 9223372036854775807 from HR1.out.2.1)
          go_loopg [8, 9] k (fun kq v8 v9 w' => ∃ (n : Int) (m : Nat), v8 = .int .i64 n ∧ v9 = .int .i64 (m : Int) ∧ Aside0 (pentaglotlaw01_AlphabetSorted.l0 kq l0 l1 a2 x n (m : Int) = some r) ∧ Aside0 (m ≤ x.length) ∧ Aside0 (Kd.C Kd.string w' A4 x.length x) ∧ Aside0 (Below w.heap.size w w'))
          case atStart => exact ⟨0, 0, rfl, rfl, H4, ⟨Nat.zero_le _⟩, HX, HB4⟩
          case round =>
            clear H4 HX HB4 z1 z2
            obtain ⟨n, m, rfl, rfl, HH, HM, HX, HB⟩ := hrel
            cases gk with
            | zero => exact absurd HH.out (by simp [pentaglotlaw01_AlphabetSorted.l0])
            | succ k1 =>
              have H := HH.out
              clear HH
              simp only [pentaglotlaw01_AlphabetSorted.l0] at H
              by_cases c4 : m < x.length
              · have c4i : (m : Int) < (x.length : Int) := by omega
                have c4b : decide ((m : Int) < (x.length : Int)) = true := decide_eq_true c4i
                have c4n : decide (m < x.length) = true := decide_eq_true c4
                have pm : (0 ≤ (m : Int)) = True := eq_true (by omega)
                have qm : ((m : Int) < (x.length : Int)) = True := eq_true c4i
                have hwm : wrap64 ((m : Int) + 1) = ((m + 1 : Nat) : Int) := by have h1 := HXL.out; unfold wrap64; omega
                obtain ⟨ad, e4, hxm⟩ := str_at HX.out c4
                cases e4
                rw [if_pos c4i] at H
                have HM2 := Aside0.mk (show m + 1 ≤ x.length from c4)
                clear c4i
                -- what follows the guard: the string is counted or not
                by_cases c5 : m = 0
                · have g0 : decide ((0 : Int) < (m : Int)) = false := decide_eq_false (by omega)
                  have g1 : decide (0 < m) = false := decide_eq_false (by omega)
                  rw [if_neg (show ¬ (m : Int) > 0 by omega)] at H
                  clear c5
                  cases k1 with
                  | zero => exact absurd H (by simp [pentaglotlaw01_AlphabetSorted.j2])
                  | succ k2 =>
                    simp only [pentaglotlaw01_AlphabetSorted.j2, Bool.false_eq_true, if_false] at H
                    rw [if_pos (of_eq_true pm), if_pos (of_eq_true qm)] at H
                    by_cases c8 : (rdOf ByteArray.empty x (m : Int)).toList = a2.toList
                    · rw [if_pos c8, hwm] at H
                      have c8b : ((rdOf ByteArray.empty x (m : Int)).toList == a2.toList) = true := beq_iff_eq.mpr c8
                      have H' := Aside0.mk H
                      clear H c8
                      go_wp2
                      repeat (go_quiet (fail); try go_wp2)
                      go_roundg k2
                      case measure => omega
                      case rel => exact ⟨wrap64 (n + 1), m + 1, (by first | rfl | (simp; done)), (by first | rfl | rw [hwm]), H', HM2, ⟨by first | exact HX.out | exact Kd.C_drew HX.out | exact Kd.C_drewN HX.out _⟩, ⟨by repeat (first | (with_reducible first | exact HB.out | apply below_alloc | apply pw_below_drewN | apply below_drew1) | exact HB.out)⟩⟩
                    · rw [if_neg c8, hwm] at H
                      have c8b : ((rdOf ByteArray.empty x (m : Int)).toList == a2.toList) = false := beq_eq_false_iff_ne.mpr c8
                      have H' := Aside0.mk H
                      clear H c8
                      go_wp2
                      repeat (go_quiet (fail); try go_wp2)
                      go_roundg k2
                      case measure => omega
                      case rel => exact ⟨n, m + 1, (by first | rfl | (simp; done)), (by first | rfl | rw [hwm]), H', HM2, ⟨by first | exact HX.out | exact Kd.C_drew HX.out | exact Kd.C_drewN HX.out _⟩, ⟨by repeat (first | (with_reducible first | exact HB.out | apply below_alloc | apply pw_below_drewN | apply below_drew1) | exact HB.out)⟩⟩
                · have c5i : (m : Int) > 0 := by omega
                  have g0 : decide ((0 : Int) < (m : Int)) = true := decide_eq_true c5i
                  have g1 : decide (0 < m) = true := decide_eq_true (by omega)
                  obtain ⟨q, hq⟩ : ∃ q, q + 1 = m := ⟨m - 1, by omega⟩
                  have c6 : q < x.length := by omega
                  have pq : (0 ≤ (q : Int)) = True := eq_true (by omega)
                  have qq : ((q : Int) < (x.length : Int)) = True := eq_true (by omega)
                  obtain ⟨ad', e5, hxq⟩ := str_at HX.out c6
                  cases e5
                  have hwq : wrap64 ((m : Int) - 1) = (q : Int) := by have h1 := HXL.out; unfold wrap64; omega
                  have hwq2 : IntKind.i64.wrap ((m : Int) - 1) = (q : Int) := by clear hwq; have h1 := HXL.out; rw [IntKind.wrap_i64]; omega
                  rw [if_pos c5i, hwq, if_pos (of_eq_true pq), if_pos (of_eq_true qq), if_pos (of_eq_true pm)] at H
                  obtain ⟨t, ht, H⟩ := Option.bind_eq_some_iff.mp H
                  have HT := Aside0.mk ht
                  obtain ⟨sm, hsm⟩ : ∃ s, rdOf ByteArray.empty x (m : Int) = s := ⟨_, rfl⟩
                  obtain ⟨sq, hsq⟩ : ∃ s, rdOf ByteArray.empty x (q : Int) = s := ⟨_, rfl⟩
                  rw [hsm, hsq] at HT
                  rw [hsm] at hxm
                  rw [hsq] at hxq
                  have HSM := Aside0.mk hsm
                  clear ht c5 c5i hq c6 hsq hsm
                  by_cases c7 : t > 0
                  · have d7 : decide ((0 : Int) < t) = true := decide_eq_true c7
                    cases k1 with
                    | zero => exact absurd H (by simp [pentaglotlaw01_AlphabetSorted.j2])
                    | succ k2 =>
                      rw [decide_eq_true c7] at H
                      simp only [pentaglotlaw01_AlphabetSorted.j2, if_true] at H
                      obtain rfl := Option.some.inj H
                      clear H c7
                      go_wp2_with fail
                      go_region_held3 (fun w' => w'.cell? (ad.add q) = some (.string sq) ∧ w'.cell? (ad.add m) = some (.string sm) ∧ Aside0 (Below wr.heap.size wr w')) (first | assumption | exact ⟨by first | assumption | go_keep, by first | assumption | go_keep, ⟨(Below.refl _ _).drew⟩⟩) (first | (go_at_call 23; have hX := (And.right (And.right ‹_ ∧ _ ∧ Aside0 (Below wr.heap.size wr _)›)); (with_reducible refine (alphabet_Compare.calls (k2 + 1) A0 c0 l0 sq sm t _ (Kd.C_below HR0.out (below_step HB.out hX.out)) HC0.out HT.out).mono ?_); rintro e w1 ⟨rfl, hb⟩; have hbb := below_step hX.out hb; have hnew := And.intro (pw_cell_below hbb hxq) (And.intro (pw_cell_below hbb hxm) (Aside0.mk hbb)); clear hb hbb))
                      have hbb := (And.right (And.right ‹w1.cell? _ = _ ∧ _ ∧ Aside0 (Below wr.heap.size wr w1)›)).out
                      have HX1 := Aside0.mk (Kd.C_below HX.out hbb)
                      have HB1 := Aside0.mk (below_step HB.out hbb)
                      have hxm1 := pw_cell_below hbb hxm
                      clear hX hbb hxm hxq HX HB
                      rename_i hHeld
                      clear hHeld hnew
                      go_wp2
                      go_ret
                      exact ⟨rfl, HB1.out⟩
                  · have d7 : decide ((0 : Int) < t) = false := decide_eq_false c7
                    rw [decide_eq_false c7] at H
                    clear c7
                    cases k1 with
                    | zero => exact absurd H (by simp [pentaglotlaw01_AlphabetSorted.j2])
                    | succ k2 =>
                      simp only [pentaglotlaw01_AlphabetSorted.j2, Bool.false_eq_true, if_false] at H
                      rw [if_pos (of_eq_true pm), if_pos (of_eq_true qm)] at H
                      by_cases c8 : (rdOf ByteArray.empty x (m : Int)).toList = a2.toList
                      · rw [if_pos c8, hwm] at H
                        have c8b : ((rdOf ByteArray.empty x (m : Int)).toList == a2.toList) = true := beq_iff_eq.mpr c8
                        have H' := Aside0.mk H
                        clear H c8
                        rw [HSM.out] at c8b
                        go_wp2_with fail
                        go_region_held3 (fun w' => w'.cell? (ad.add q) = some (.string sq) ∧ w'.cell? (ad.add m) = some (.string sm) ∧ Aside0 (Below wr.heap.size wr w')) (first | assumption | exact ⟨by first | assumption | go_keep, by first | assumption | go_keep, ⟨(Below.refl _ _).drew⟩⟩) (first | (go_at_call 23; have hX := (And.right (And.right ‹_ ∧ _ ∧ Aside0 (Below wr.heap.size wr _)›)); (with_reducible refine (alphabet_Compare.calls (k2 + 1) A0 c0 l0 sq sm t _ (Kd.C_below HR0.out (below_step HB.out hX.out)) HC0.out HT.out).mono ?_); rintro e w1 ⟨rfl, hb⟩; have hbb := below_step hX.out hb; have hnew := And.intro (pw_cell_below hbb hxq) (And.intro (pw_cell_below hbb hxm) (Aside0.mk hbb)); clear hb hbb))
                        have hbb := (And.right (And.right ‹w1.cell? _ = _ ∧ _ ∧ Aside0 (Below wr.heap.size wr w1)›)).out
                        have HX1 := Aside0.mk (Kd.C_below HX.out hbb)
                        have HB1 := Aside0.mk (below_step HB.out hbb)
                        have hxm1 := pw_cell_below hbb hxm
                        clear hX hbb hxm hxq HX HB
                        rename_i hHeld
                        clear hHeld hnew
                        go_wp2
                        repeat (go_quiet (fail); try go_wp2)
                        go_roundg k2
                        case measure => omega
                        case rel => exact ⟨wrap64 (n + 1), m + 1, (by first | rfl | (simp; done)), (by first | rfl | rw [hwm]), H', HM2, ⟨by first | exact HX1.out | exact Kd.C_drew HX1.out | exact Kd.C_drewN HX1.out _⟩, ⟨by repeat (first | (with_reducible first | exact HB1.out | apply below_alloc | apply pw_below_drewN | apply below_drew1) | exact HB1.out)⟩⟩
                      · rw [if_neg c8, hwm] at H
                        have c8b : ((rdOf ByteArray.empty x (m : Int)).toList == a2.toList) = false := beq_eq_false_iff_ne.mpr c8
                        have H' := Aside0.mk H
                        clear H c8
                        rw [HSM.out] at c8b
                        go_wp2_with fail
                        go_region_held3 (fun w' => w'.cell? (ad.add q) = some (.string sq) ∧ w'.cell? (ad.add m) = some (.string sm) ∧ Aside0 (Below wr.heap.size wr w')) (first | assumption | exact ⟨by first | assumption | go_keep, by first | assumption | go_keep, ⟨(Below.refl _ _).drew⟩⟩) (first | (go_at_call 23; have hX := (And.right (And.right ‹_ ∧ _ ∧ Aside0 (Below wr.heap.size wr _)›)); (with_reducible refine (alphabet_Compare.calls (k2 + 1) A0 c0 l0 sq sm t _ (Kd.C_below HR0.out (below_step HB.out hX.out)) HC0.out HT.out).mono ?_); rintro e w1 ⟨rfl, hb⟩; have hbb := below_step hX.out hb; have hnew := And.intro (pw_cell_below hbb hxq) (And.intro (pw_cell_below hbb hxm) (Aside0.mk hbb)); clear hb hbb))
                        have hbb := (And.right (And.right ‹w1.cell? _ = _ ∧ _ ∧ Aside0 (Below wr.heap.size wr w1)›)).out
                        have HX1 := Aside0.mk (Kd.C_below HX.out hbb)
                        have HB1 := Aside0.mk (below_step HB.out hbb)
                        have hxm1 := pw_cell_below hbb hxm
                        clear hX hbb hxm hxq HX HB
                        rename_i hHeld
                        clear hHeld hnew
                        go_wp2
                        repeat (go_quiet (fail); try go_wp2)
                        go_roundg k2
                        case measure => omega
                        case rel => exact ⟨n, m + 1, (by first | rfl | (simp; done)), (by first | rfl | rw [hwm]), H', HM2, ⟨by first | exact HX1.out | exact Kd.C_drew HX1.out | exact Kd.C_drewN HX1.out _⟩, ⟨by repeat (first | (with_reducible first | exact HB1.out | apply below_alloc | apply pw_below_drewN | apply below_drew1) | exact HB1.out)⟩⟩
              · have c4i : ¬ (m : Int) < (x.length : Int) := by omega
                have c4b : decide ((m : Int) < (x.length : Int)) = false := decide_eq_false c4i
                have c4n : decide (m < x.length) = false := decide_eq_false c4
                rw [if_neg c4i] at H
                have H4 := Aside0.mk H
                clear H c4 c4i HX HM
                go_wp2
                clear c4b c4n
                go_loopg [8, 10] k1 (fun kq v8 v10 w' => ∃ (n : Int) (m : Nat), v8 = .int .i64 n ∧ v10 = .int .i64 (m : Int) ∧ Aside0 (pentaglotlaw01_AlphabetSorted.l1 kq l1 a2 x n (m : Int) = some r) ∧ Aside0 (m ≤ l1.length) ∧ Aside0 (Below w.heap.size w w'))
                case atStart => exact ⟨n, 0, rfl, rfl, H4, ⟨Nat.zero_le _⟩, HB⟩
                case round =>
                  clear H4 HB
                  obtain ⟨n, m, rfl, rfl, HH, HM, HB⟩ := hrel
                  cases gk with
                  | zero => exact absurd HH.out (by simp [pentaglotlaw01_AlphabetSorted.l1])
                  | succ k1 =>
                    have H := HH.out
                    clear HH
                    simp only [pentaglotlaw01_AlphabetSorted.l1] at H
                    by_cases c4 : m < l1.length
                    · have c4i : (m : Int) < (l1.length : Int) := by omega
                      have c4b : decide ((m : Int) < (l1.length : Int)) = true := decide_eq_true c4i
                      have c4n : decide (m < l1.length) = true := decide_eq_true c4
                      have pm : (0 ≤ (m : Int)) = True := eq_true (by omega)
                      have qm : ((m : Int) < (l1.length : Int)) = True := eq_true c4i
                      have hwm : wrap64 ((m : Int) + 1) = ((m + 1 : Nat) : Int) := by have h1 := HWL.out; unfold wrap64; omega
                      obtain ⟨ad, e4, hxm⟩ := str_at (Kd.C_below HR1.out HB.out) c4
                      cases e4
                      rw [if_pos c4i, if_pos (of_eq_true pm), hwm] at H
                      have HM2 := Aside0.mk (show m + 1 ≤ l1.length from c4)
                      clear c4i c4
                      by_cases c8 : (rdOf ByteArray.empty l1 (m : Int)).toList = a2.toList
                      · rw [if_pos c8] at H
                        have c8b : ((rdOf ByteArray.empty l1 (m : Int)).toList == a2.toList) = true := beq_iff_eq.mpr c8
                        have H' := Aside0.mk H
                        clear H c8
                        go_wp2
                        repeat (go_quiet (fail); try go_wp2)
                        go_roundg k1
                        case measure => omega
                        case rel => exact ⟨wrap64 (n - 1), m + 1, (by first | rfl | (simp; done)), (by first | rfl | rw [hwm]), H', HM2, ⟨by repeat (first | (with_reducible first | exact HB.out | apply below_alloc | apply pw_below_drewN | apply below_drew1) | exact HB.out)⟩⟩
                      · rw [if_neg c8] at H
                        have c8b : ((rdOf ByteArray.empty l1 (m : Int)).toList == a2.toList) = false := beq_eq_false_iff_ne.mpr c8
                        have H' := Aside0.mk H
                        clear H c8
                        go_wp2
                        repeat (go_quiet (fail); try go_wp2)
                        go_roundg k1
                        case measure => omega
                        case rel => exact ⟨n, m + 1, (by first | rfl | (simp; done)), (by first | rfl | rw [hwm]), H', HM2, ⟨by repeat (first | (with_reducible first | exact HB.out | apply below_alloc | apply pw_below_drewN | apply below_drew1) | exact HB.out)⟩⟩
                    · have c4i : ¬ (m : Int) < (l1.length : Int) := by omega
                      have c4b : decide ((m : Int) < (l1.length : Int)) = false := decide_eq_false c4i
                      have c4n : decide (m < l1.length) = false := decide_eq_false c4
                      rw [if_neg c4i] at H
                      clear c4 c4i
                      by_cases c9 : n = 0
                      · rw [if_pos c9] at H
                        have c9b : (n == 0) = true := beq_iff_eq.mpr c9
                        obtain ⟨b, hb⟩ : ∃ b, ((x.length : Int) == (l1.length : Int)) = b := ⟨_, rfl⟩
                        rw [hb] at H
                        obtain rfl := Option.some.inj H
                        have hb2 : (x.length == l1.length) = b := by rw [← hb, Bool.eq_iff_iff, beq_iff_eq, beq_iff_eq]; omega
                        clear H c9
                        go_wp2
                        repeat (go_quiet (fail); try go_wp2)
                        go_ret
                        exact ⟨by first | rfl | (simp; done) | (simp [hb]; done), by repeat (first | (with_reducible first | exact HB.out | apply below_alloc | apply pw_below_drewN | apply below_drew1) | exact HB.out)⟩
                      · rw [if_neg c9] at H
                        have c9b : (n == 0) = false := beq_eq_false_iff_ne.mpr c9
                        obtain rfl := Option.some.inj H
                        clear H c9
                        go_wp2
                        repeat (go_quiet (fail); try go_wp2)
                        go_ret
                        exact ⟨by first | rfl | (simp; done), by repeat (first | (with_reducible first | exact HB.out | apply below_alloc | apply pw_below_drewN | apply below_drew1) | exact HB.out)⟩

end Go.Proofs.YtpgeimihmkampaaDoor.C
