-- WRITTEN BY mkprint.py, a program of this session, over the kit's print of the given program. Not trusted: Lean checks it.
import Derived.Test.YtpgeimihmkampaaDoorCx0
import Derived.Test.YtpgeimihmkampaaDoorCx1
import Derived.Test.YtpgeimihmkampaaDoorCx3
import Derived.Test.YtpgeimihmkampaaDoorCx6
namespace Go.Proofs.YtpgeimihmkampaaDoor.C
open Go.RowKit Go.Proofs.YtpgeimihmkampaaDoorW.PrintWords Go.Proofs.YtpgeimihmkampaaDoorW.PrintLast Go.Proofs.YtpgeimihmkampaaDoorW.PrintMore
attribute [local go_sem] max2_int min2_int max_two min_two max_three min_three max_four min_four   -- for this text's walks alone
set_option linter.unusedVariables false
set_option linter.unusedSimpArgs false

/-! ### alphabet_IsWord: function 20 -/
set_option maxHeartbeats 8000000 in
set_option maxRecDepth 100000 in
theorem alphabet_IsWord.calls (A0 : Option Addr) (c0 : Nat) (l : List S42) (s : ByteArray) (r : Bool) (w : World) (hr0 : Kd.C k42 w A0 l.length l) (hc0 : l.length ≤ c0) (hG : Glob w) (h : alphabet_IsWord.f l s = some r) :
    Calls Tryd.prog 20 #[.slice A0 l.length c0, .string s] w fun e w' => e = .returned (.bool r) ∧ Below w.heap.size w w' := by
  unfold alphabet_IsWord.f at h
  by_cases h1 : okS l s = true
  · rw [if_pos h1] at h
    have HR := Aside0.mk hr0
    have HG := Aside0.mk hG
    have HO := Aside0.mk (okS_at h1)
    have hvs : utf8_ValidString.f s = some (Lib.validD s.data.toList) := if_pos (by have := HO.out.2; omega)
    have HV := Aside0.mk hvs
    have h := Option.some.inj h
    clear hr0 hG h1 hvs
    cases hv : Lib.validD s.data.toList with
    | false =>
      rw [hv] at h HV
      obtain rfl : false = r := by simpa using h
      clear h hv
      go_enter Tryd.func20, Tryd.ntmps20
      go_wp2_with (first | (go_at_call 42; refine (utf8_ValidString.calls s false _ HG.out HV.out).mono ?_; rintro e w1 ⟨rfl, hb⟩; have HB1 := Aside0.mk hb; clear hb))
      go_ret
      exact ⟨rfl, HB1.out⟩
    | true =>
      rw [hv] at h HV
      rw [Bool.true_and] at h
      have HA0 := Aside0.mk h
      clear h hv
      go_enter Tryd.func20, Tryd.ntmps20
      go_wp2_with (first | (go_at_call 42; refine (utf8_ValidString.calls s true _ HG.out HV.out).mono ?_; rintro e w1 ⟨rfl, hb⟩; have HB1 := Aside0.mk hb; clear hb) | (go_at_call 40; refine (alphabet_indices.calls A0 c0 l _ (Kd.C_below HR.out HB1.out) hc0 HO.out.1.1 HO.out.1.2).mono ?_; rintro e w2 ⟨b, n, rfl, hb, ht, hbel⟩; have HT := Aside0.mk ht; have HB2 := Aside0.mk (below_step HB1.out hbel); clear hb ht hbel))
      go_loopg [6] (s.size + 1) (fun kq v6 w' => ∃ (pos m : Nat) (xs : List Int), v6 = .int .i64 (m : Int) ∧ Aside0 (Left s kq pos xs) ∧ Aside0 ((xs.all (isLetter l) && decide (((m + xs.length : Nat) : Int) ≤ 40)) = r) ∧ Aside0 (m ≤ pos) ∧ Aside0 (w'.heap[w2.heap.size]? = some (.stringIter s pos)) ∧ Aside0 (Tb w' b n (distinct l l.length) (firstIn l l.length)) ∧ Aside0 (Below w.heap.size w w'))
      case atStart => exact ⟨0, 0, rns s, (by first | rfl | (simp; done)), ⟨left_start s⟩, ⟨by have := HA0.out; simpa using this⟩, ⟨Nat.le_refl _⟩, ⟨blk_new w2 (.stringIter s 0)⟩, ⟨HT.out.step (below_alloc (Below.refl _ _) (.stringIter s 0))⟩, ⟨below_alloc HB2.out (.stringIter s 0)⟩⟩
      case round =>
        obtain ⟨pos, m, xs, rfl, HL, HA, HM, HI, HT1, HB⟩ := hrel
        have HBL := Aside0.mk (show b ≠ w2.heap.size from fun e => by have := HT.out.lt; omega)
        by_cases c1 : pos < s.size
        · obtain ⟨k1, ys, rfl, rfl, HL1⟩ := left_next HL.out c1
          have hnx : ∀ ty, (Instr.next (.pointer (some ⟨w2.heap.size, 0, none⟩)) true ty).run Tryd.prog wr = _ := fun ty => Lib.run_next_any_at wr w2.heap.size s pos ty HI.out c1
          have HI2 := Aside0.mk (Lib.iterAt_heap wr w2.heap.size s pos (pos + (Utf8.decode s pos).2) HI.out)
          have HB2' := Aside0.mk (Lib.below_iterAt HB.out HB2.out.size s (pos + (Utf8.decode s pos).2))
          have HT2 := Aside0.mk (HT1.out.kept (grown_iterAt wr w2.heap.size s (pos + (Utf8.decode s pos).2)) (fun e => HBL.out (by injection e)))
          have hlk := HT2.out.look (wf_rune s pos)
          have HN := Aside0.mk (show m + 1 ≤ pos + (Utf8.decode s pos).2 by have := HM.out; have := Lib.decode_width_pos s pos c1; omega)
          have hwm : wrap64 ((m : Int) + 1) = ((m + 1 : Nat) : Int) := by have := HO.out; have := HM.out; unfold wrap64; omega
          have HLL := Aside0.mk HL1
          clear HL1 HI HB HT1 HL
          generalize hd : Utf8.decode s pos = d at *
          obtain ⟨d1, d2⟩ := d
          simp only at HLL HA hnx HI2 HB2' HT2 HN hlk
          clear hd c1
          cases hf : firstIn l l.length (d1 : Int) with
          | none =>
            rw [hf] at hlk
            obtain rfl : false = r := by
              have := HA.out
              simpa [isLetter, hf] using this
            clear hf
            go_wp2
            go_ret
            exact ⟨rfl, HB2'.out⟩
          | some i =>
            rw [hf] at hlk
            have HA' : Aside0 ((ys.all (isLetter l) && decide (((m + 1 + ys.length : Nat) : Int) ≤ 40)) = r) := ⟨by
              have := HA.out
              simp only [List.all_cons, isLetter, hf, Option.isSome_some, Bool.true_and, List.length_cons] at this
              rw [← this]
              congr 2
              rw [show m + 1 + ys.length = m + (ys.length + 1) by omega]⟩
            clear hf HA
            go_wp2
            go_roundg k1
            case measure => omega
            case rel => exact ⟨_, m + 1, ys, by rw [hwm], HLL, HA', HN, HI2, HT2, HB2'⟩
        · obtain rfl := left_end HL.out c1
          have hnx : ∀ ty, (Instr.next (.pointer (some ⟨w2.heap.size, 0, none⟩)) true ty).run Tryd.prog wr = _ := fun ty => Lib.run_next_end_at wr w2.heap.size s pos ty HI.out c1
          have hr : decide ((m : Int) ≤ 40) = r := by
            have := HA.out
            simpa using this
          clear c1
          go_wp2
          go_ret
          exact ⟨rfl, HB.out⟩
  · rw [if_neg h1] at h
    exact absurd h (by simp)

end Go.Proofs.YtpgeimihmkampaaDoor.C
