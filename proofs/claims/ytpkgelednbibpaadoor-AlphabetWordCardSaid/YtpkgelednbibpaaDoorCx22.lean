-- WRITTEN BY mkprint.py, a program of this session, over the kit's print of the given program. Not trusted: Lean checks it.
import Derived.Test.YtpkgelednbibpaaDoorCx0
import Derived.Test.YtpkgelednbibpaaDoorCx1
import Derived.Test.YtpkgelednbibpaaDoorCx17
import Derived.Test.YtpkgelednbibpaaDoorCx21
namespace Go.Proofs.YtpkgelednbibpaaDoor.C
open Go.RowKit Go.Proofs.YtpkgelednbibpaaDoorW.PrintWords Go.Proofs.YtpkgelednbibpaaDoorW.PrintLast Go.Proofs.YtpkgelednbibpaaDoorW.PrintMore
attribute [local go_sem] max2_int min2_int max_two min_two max_three min_three max_four min_four   -- for this text's walks alone
set_option linter.unusedVariables false
set_option linter.unusedSimpArgs false

/-! ### pentaglotref01_Over: function 39 -/
set_option maxHeartbeats 8000000 in
set_option maxRecDepth 100000 in
theorem pentaglotref01_Over.calls (k : Nat) (A0 : Option Addr) (c0 : Nat) (l : List S42) (s : ByteArray) (r : Bool) (w : World) (hr0 : Kd.C k42 w A0 l.length l) (hc0 : l.length ≤ c0) (h : pentaglotref01_Over.f k l s = some r) :
    Calls Tryd.prog 39 #[.slice A0 l.length c0, .string s] w fun e w' => e = .returned (.bool r) ∧ Below w.heap.size w w' := by
  unfold pentaglotref01_Over.f at h
  by_cases h1 : s.size ≤ 1000000
  · rw [if_pos h1] at h
    obtain ⟨t, hu, h⟩ := Option.bind_eq_some_iff.mp h
    have HU := Aside0.mk hu
    have HR := Aside0.mk hr0
    clear hu h1 hr0
    cases t with
    | false =>
      obtain rfl : false = r := by simpa using h
      clear h
      go_enter Tryd.func39, Tryd.ntmps39
      go_wp2_with (first | (go_at_call 20; refine (pentaglotref01_UTF8.calls k s false _ HU.out).mono ?_; rintro e w1 ⟨rfl, hb⟩; have HB1 := Aside0.mk hb; clear hb))
      go_ret
      exact ⟨rfl, HB1.out⟩
    | true =>
      rw [if_pos rfl] at h
      have HA0 := Aside0.mk h
      clear h
      go_enter Tryd.func39, Tryd.ntmps39
      go_wp2_with (first | (go_at_call 20; refine (pentaglotref01_UTF8.calls k s true _ HU.out).mono ?_; rintro e w2 ⟨rfl, hb⟩; have HB2 := Aside0.mk hb; clear hb))
      go_loopg [] (s.size + 1) (fun kq w' => ∃ (pos : Nat) (xs : List Int), Aside0 (Left s kq pos xs) ∧ Aside0 (refOver.l0 k l xs = some r) ∧ Aside0 (w'.heap[w2.heap.size]? = some (.stringIter s pos)) ∧ Aside0 (Below w.heap.size w w'))
      case atStart => exact ⟨0, rns s, ⟨left_start s⟩, HA0, ⟨blk_new w2 (.stringIter s 0)⟩, ⟨below_alloc HB2.out (.stringIter s 0)⟩⟩
      case round =>
        obtain ⟨pos, xs, HL, HA, HI, HB⟩ := hrel
        by_cases c1 : pos < s.size
        · obtain ⟨k1, ys, rfl, rfl, HL1⟩ := left_next HL.out c1
          have hnx : ∀ ty, (Instr.next (.pointer (some ⟨w2.heap.size, 0, none⟩)) true ty).run Tryd.prog wr = _ := fun ty => Lib.run_next_any_at wr w2.heap.size s pos ty HI.out c1
          have HI2 := Aside0.mk (Lib.iterAt_heap wr w2.heap.size s pos (pos + (Utf8.decode s pos).2) HI.out)
          have HB2' := Aside0.mk (Lib.below_iterAt HB.out HB2.out.size s (pos + (Utf8.decode s pos).2))
          have H := HA.out
          simp only [refOver.l0] at H
          have HLL := Aside0.mk HL1
          clear HL1 HB HL HA
          obtain ⟨t, hi, H2⟩ := Option.bind_eq_some_iff.mp H
          clear H
          have H := H2
          clear H2
          have HX := Aside0.mk hi
          have HSZ := Aside0.mk (show w2.heap.size < (wr.iterAt w2.heap.size s (pos + (Utf8.decode s pos).2)).heap.size from (Array.getElem?_eq_some_iff.1 HI2.out).1)
          have HCR := Aside0.mk (Kd.C_below HR.out HB2'.out)
          clear hi HI
          generalize hd : Utf8.decode s pos = d at *
          obtain ⟨d1, d2⟩ := d
          simp only at HLL hnx HI2 HB2' HX HSZ HCR
          clear hd c1
          by_cases c2 : t < 0
          · rw [if_pos c2] at H
            obtain rfl := Option.some.inj H
            have c2b : decide (t < 0) = true := decide_eq_true c2
            clear H c2
            go_wp2_with (first | (go_at_call 27; refine (pentaglotref01_Index.calls k A0 c0 l (d1 : Int) t _ HCR.out hc0 HX.out).mono ?_; rintro e w1 ⟨rfl, hd⟩; have HB3 := Aside0.mk (below_step HB2'.out hd.below); clear hd))
            go_ret
            exact ⟨rfl, HB3.out⟩
          · rw [if_neg c2] at H
            have H' := Aside0.mk H
            have c2b : decide (t < 0) = false := decide_eq_false c2
            clear H c2
            go_wp2_with (first | (go_at_call 27; refine (pentaglotref01_Index.calls k A0 c0 l (d1 : Int) t _ HCR.out hc0 HX.out).mono ?_; rintro e w1 ⟨rfl, hd⟩; have HI3 := Aside0.mk ((hd.below.block _ HSZ.out).trans HI2.out); have HB3 := Aside0.mk (below_step HB2'.out hd.below); clear hd))
            go_roundg k1
            case measure => omega
            case rel => exact ⟨_, ys, HLL, H', HI3, HB3⟩
        · obtain rfl := left_end HL.out c1
          have hnx : ∀ ty, (Instr.next (.pointer (some ⟨w2.heap.size, 0, none⟩)) true ty).run Tryd.prog wr = _ := fun ty => Lib.run_next_end_at wr w2.heap.size s pos ty HI.out c1
          obtain rfl : true = r := by simpa [refOver.l0] using HA.out
          clear c1
          go_wp2
          go_ret
          exact ⟨rfl, HB.out⟩
  · rw [if_neg h1] at h
    exact absurd h (by simp)

end Go.Proofs.YtpkgelednbibpaaDoor.C
