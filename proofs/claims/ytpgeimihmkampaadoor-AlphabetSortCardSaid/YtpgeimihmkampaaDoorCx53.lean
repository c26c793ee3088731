-- WRITTEN BY mkprint.py, a program of this session, over the kit's print of the given program. Not trusted: Lean checks it.
import Derived.Test.YtpgeimihmkampaaDoorCx0
import Derived.Test.YtpgeimihmkampaaDoorCx1
import Derived.Test.YtpgeimihmkampaaDoorCx15
import Derived.Test.YtpgeimihmkampaaDoorCx16
import Derived.Test.YtpgeimihmkampaaDoorCx30
import Derived.Test.YtpgeimihmkampaaDoorCx51
import Derived.Test.YtpgeimihmkampaaDoorCx52
namespace Go.Proofs.YtpgeimihmkampaaDoor.C
open Go.RowKit Go.Proofs.YtpgeimihmkampaaDoorW.PrintWords Go.Proofs.YtpgeimihmkampaaDoorW.PrintLast Go.Proofs.YtpgeimihmkampaaDoorW.PrintMore
attribute [local go_sem] max2_int min2_int max_two min_two max_three min_three max_four min_four   -- for this text's walks alone
set_option linter.unusedVariables false
set_option linter.unusedSimpArgs false

/-! ### pentaglotlaw01_AlphabetSort: function 14 -/
set_option maxHeartbeats 8000000 in
set_option maxRecDepth 100000 in
theorem pentaglotlaw01_AlphabetSort.calls (k : Nat) (A0 : Option Addr) (c0 : Nat) (l0 : List (S42)) (A1 : Option Addr) (c1 : Nat) (l1 : List ByteArray) (r : Bool) (w : World) (hr0 : Kd.C k42 w A0 l0.length l0) (hc0 : l0.length ≤ c0) (hr1 : Kd.C Kd.string w A1 l1.length l1) (hc1 : l1.length ≤ c1) (hG : Glob w) (h : pentaglotlaw01_AlphabetSort.f k l0 l1 = some r) :
    Calls Tryd.prog 14 #[.slice A0 l0.length c0, .slice A1 l1.length c1] w fun e w' => e = .returned (.bool r) ∧ Below w.heap.size w w' := by
  have HG := Aside0.mk hG
  have HR0 := Aside0.mk hr0
  have HR1 := Aside0.mk hr1
  have HC0 := Aside0.mk hc0
  have HC1 := Aside0.mk hc1
  clear hG hr0 hr1
  unfold pentaglotlaw01_AlphabetSort.f at h
  obtain ⟨t1, ha, h⟩ := Option.bind_eq_some_iff.mp h
  have HA := Aside0.mk ha
  cases t1 with
  | false =>
    rw [if_neg (by decide)] at h
    cases k with
    | zero => exact absurd h (by simp [pentaglotlaw01_AlphabetSort.j0])
    | succ k =>
      simp only [pentaglotlaw01_AlphabetSort.j0, if_true] at h
      obtain ⟨t3, h3, h⟩ := Option.bind_eq_some_iff.mp h
      obtain rfl := Option.some.inj h
      have H3 := Aside0.mk h3
      clear h ha h3
      go_enter Tryd.func14, Tryd.ntmps14
      go_wp2_with (first | (go_at_call 16; first | ((with_reducible refine (pentaglotlaw01_awake.calls (k + 1) false _ HG.out HA.out).mono ?_); rintro e w1 ⟨rfl, hb⟩; have HB1 := Aside0.mk hb; have HG1 := Aside0.mk (Glob.below HG.out hb); clear hb HG) | ((with_reducible refine (pentaglotlaw01_awake.calls k t3 _ HG1.out H3.out).mono ?_); rintro e w2 ⟨rfl, hb⟩; have HB2 := Aside0.mk (below_step HB1.out hb); clear hb)))
      go_ret
      exact ⟨rfl, HB2.out⟩
  | true =>
    rw [if_pos rfl] at h
    obtain ⟨t2, hf, h⟩ := Option.bind_eq_some_iff.mp h
    have HF := Aside0.mk hf
    cases k with
    | zero => exact absurd h (by simp [pentaglotlaw01_AlphabetSort.j0])
    | succ k =>
      cases t2 with
      | false =>
        simp only [pentaglotlaw01_AlphabetSort.j0, Bool.not_false, if_true] at h
        obtain ⟨t3, h3, h⟩ := Option.bind_eq_some_iff.mp h
        obtain rfl := Option.some.inj h
        have H3 := Aside0.mk h3
        clear h ha h3 hf
        go_enter Tryd.func14, Tryd.ntmps14
        go_wp2_with (first | (go_at_call 16; first | ((with_reducible refine (pentaglotlaw01_awake.calls (k + 1) true _ HG.out HA.out).mono ?_); rintro e w1 ⟨rfl, hb⟩; have HB1 := Aside0.mk hb; have HG1 := Aside0.mk (Glob.below HG.out hb); clear hb HG) | ((with_reducible refine (pentaglotlaw01_awake.calls k t3 _ HG2.out H3.out).mono ?_); rintro e w2 ⟨rfl, hb⟩; have HB3 := Aside0.mk (below_step HB2.out hb); clear hb)) | (go_at_call 17; refine (pentaglotlaw01_few.calls (k + 1) _ _ l0 _ _ l1 false _ (Kd.C_below HR0.out HB1.out) HC0.out (Kd.C_below HR1.out HB1.out) HC1.out HF.out).mono ?_; rintro e w3 ⟨rfl, hd⟩; have HB2 := Aside0.mk (below_step HB1.out hd.below); have HG2 := Aside0.mk (Glob.below HG1.out hd.below); clear hd))
        go_ret
        exact ⟨rfl, HB3.out⟩
      | true =>
        simp only [pentaglotlaw01_AlphabetSort.j0, Bool.not_true, Bool.false_eq_true, if_false] at h
        obtain ⟨x, h3, h⟩ := Option.bind_eq_some_iff.mp h
        obtain ⟨y, h4, h⟩ := Option.bind_eq_some_iff.mp h
        obtain ⟨z, h5, h⟩ := Option.bind_eq_some_iff.mp h
        obtain rfl := Option.some.inj h
        have H3 := Aside0.mk h3
        have H4 := Aside0.mk h4
        have H5 := Aside0.mk h5
        clear h ha h3 h4 h5 hf
        go_enter Tryd.func14, Tryd.ntmps14
        go_wp2_with (first | (go_at_call 16; (with_reducible refine (pentaglotlaw01_awake.calls (k + 1) true _ HG.out HA.out).mono ?_); rintro e w1 ⟨rfl, hb⟩; have HB1 := Aside0.mk hb; clear hb HG) | (go_at_call 17; refine (pentaglotlaw01_few.calls (k + 1) _ _ l0 _ _ l1 true _ (Kd.C_below HR0.out HB1.out) HC0.out (Kd.C_below HR1.out HB1.out) HC1.out HF.out).mono ?_; rintro e w3 ⟨rfl, hd⟩; have HB2 := Aside0.mk (below_step HB1.out hd.below); clear hd) | (go_at_call 37; refine (alphabet_Sort.calls k _ _ l0 _ _ l1 x _ (Kd.C_below HR0.out HB2.out) HC0.out (Kd.C_below HR1.out HB2.out) HC1.out H3.out).mono ?_; rintro e w4 ⟨A4, c4, rfl, hC, hc, hb⟩; have HX := Aside0.mk hC; have HXC := Aside0.mk hc; have HB4 := Aside0.mk (below_step HB2.out hb); clear hC hc hb) | (go_at_call 38; refine (pentaglotref01_Sort.calls k _ _ l0 _ _ l1 y _ (Kd.C_below HR0.out HB4.out) HC0.out (Kd.C_below HR1.out HB4.out) HC1.out H4.out).mono ?_; rintro e w5 ⟨v5, rfl, hR, hb⟩; obtain ⟨A5, c5, rfl, hc5, hC5⟩ := Kd.R_reads hR; have HY := Aside0.mk hC5; have HYC := Aside0.mk hc5; have HX5 := Aside0.mk (Kd.C_below HX.out hb); have HB5 := Aside0.mk (below_step HB4.out hb); clear hR hb hc5 hC5) | (go_at_call 25; refine (pentaglotref01_Same.calls k _ _ x _ _ y z _ HX5.out HXC.out HY.out HYC.out H5.out).mono ?_; rintro e w6 ⟨rfl, hd⟩; have HB6 := Aside0.mk (below_step HB5.out hd.below); clear hd))
        go_ret
        exact ⟨rfl, HB6.out⟩

end Go.Proofs.YtpgeimihmkampaaDoor.C
