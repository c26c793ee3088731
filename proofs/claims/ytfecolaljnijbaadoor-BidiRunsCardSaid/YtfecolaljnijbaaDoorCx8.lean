-- WRITTEN BY mkprint.py, a program of this session, over the kit's print of the given program. Not trusted: Lean checks it.
import Derived.Test.YtfecolaljnijbaaDoorCx0
import Derived.Test.YtfecolaljnijbaaDoorCx2
import Derived.Test.YtfecolaljnijbaaDoorCx4
import Derived.Test.YtfecolaljnijbaaDoorCx7
namespace Go.Proofs.YtfecolaljnijbaaDoor.C
open Go.RowKit Go.Proofs.YtfecolaljnijbaaDoorW.PrintWords Go.Proofs.YtfecolaljnijbaaDoorW.PrintLast Go.Proofs.YtfecolaljnijbaaDoorW.PrintMore
attribute [local go_sem] max2_int min2_int max_two min_two max_three min_three max_four min_four   -- for this text's walks alone
set_option linter.unusedVariables false
set_option linter.unusedSimpArgs false

/-! ### bidi_Base: function 18 -/
set_option maxHeartbeats 8000000 in
set_option maxRecDepth 100000 in
theorem bidi_Base.calls (k : Nat) (s : ByteArray) (r : Int) (w : World) (hG : Glob w) (h : bidi_Base.f k s = some r) :
    Calls Tryd.prog 18 #[.string s] w fun e w' => e = .returned (.int .i64 r) ∧ Below w.heap.size w w' := by
  unfold bidi_Base.f at h
  by_cases h1 : s.size ≤ 1000000
  · rw [if_pos h1] at h
    obtain ⟨t, hu, h⟩ := Option.bind_eq_some_iff.mp h
    have HU := Aside0.mk hu
    have HG := Aside0.mk hG
    clear hu h1 hG
    cases t with
    | false =>
      obtain rfl : 0 = r := by simpa using h
      clear h
      go_enter Tryd.func18, Tryd.ntmps18
      go_wp2_with (first | (go_at_call 16; refine (utf8_ValidString.calls s false _ HG.out HU.out).mono ?_; rintro e w1 ⟨rfl, hb⟩; have HB1 := Aside0.mk hb; clear hb))
      go_ret
      exact ⟨rfl, HB1.out⟩
    | true =>
      rw [if_pos rfl] at h
      have HA0 := Aside0.mk h
      clear h
      go_enter Tryd.func18, Tryd.ntmps18
      go_wp2_with (first | (go_at_call 16; refine (utf8_ValidString.calls s true _ HG.out HU.out).mono ?_; rintro e w2 ⟨rfl, hb⟩; have HB2 := Aside0.mk hb; clear hb))
      go_loopg [] (s.size + 1) (fun kq w' => ∃ (pos : Nat) (xs : List Int), Aside0 (Left s kq pos xs) ∧ Aside0 (bidi_Base.l0 k xs = some r) ∧ Aside0 (w'.heap[w2.heap.size]? = some (.stringIter s pos)) ∧ Aside0 (Below w.heap.size w w'))
      case atStart => exact ⟨0, rns s, ⟨left_start s⟩, HA0, ⟨blk_new w2 (.stringIter s 0)⟩, ⟨below_alloc HB2.out (.stringIter s 0)⟩⟩
      case round =>
        obtain ⟨pos, xs, HL, HA, HI, HB⟩ := hrel
        by_cases c1 : pos < s.size
        · obtain ⟨k1, ys, rfl, rfl, HL1⟩ := left_next HL.out c1
          have hnx : ∀ ty, (Instr.next (.pointer (some ⟨w2.heap.size, 0, none⟩)) true ty).run Tryd.prog wr = _ := fun ty => Lib.run_next_any_at wr w2.heap.size s pos ty HI.out c1
          have HI2 := Aside0.mk (Lib.iterAt_heap wr w2.heap.size s pos (pos + (Utf8.decode s pos).2) HI.out)
          have HB2' := Aside0.mk (Lib.below_iterAt HB.out HB2.out.size s (pos + (Utf8.decode s pos).2))
          have H := HA.out
          simp only [bidi_Base.l0] at H
          have HLL := Aside0.mk HL1
          clear HL1 HB HL HA
          obtain ⟨t, hi, H2⟩ := Option.bind_eq_some_iff.mp H
          clear H
          have H := H2
          clear H2
          have HX := Aside0.mk hi
          have HSZ := Aside0.mk (show w2.heap.size < (wr.iterAt w2.heap.size s (pos + (Utf8.decode s pos).2)).heap.size from (Array.getElem?_eq_some_iff.1 HI2.out).1)
          clear hi HI
          generalize hd : Utf8.decode s pos = d at *
          obtain ⟨d1, d2⟩ := d
          simp only at HLL hnx HI2 HB2' HX HSZ
          clear hd c1
          by_cases c2 : t = 2
          · rw [if_pos c2] at H
            obtain rfl := Option.some.inj H
            subst c2
            clear H
            go_wp2_with (first | (go_at_call 13; refine (bidi_Class.calls k (d1 : Int) 2 _ HX.out).mono ?_; rintro e w1 ⟨rfl, hd⟩; have HB3 := Aside0.mk (below_step HB2'.out hd.below); clear hd))
            go_ret
            exact ⟨rfl, HB3.out⟩
          · rw [if_neg c2] at H
            have c2b : (t == 2) = false := beq_eq_false_iff_ne.mpr c2
            by_cases c3 : t = 1
            · rw [if_pos c3] at H
              obtain rfl := Option.some.inj H
              subst c3
              clear H c2 c2b
              go_wp2_with (first | (go_at_call 13; refine (bidi_Class.calls k (d1 : Int) 1 _ HX.out).mono ?_; rintro e w1 ⟨rfl, hd⟩; have HB3 := Aside0.mk (below_step HB2'.out hd.below); clear hd))
              go_ret
              exact ⟨rfl, HB3.out⟩
            · rw [if_neg c3] at H
              have c3b : (t == 1) = false := beq_eq_false_iff_ne.mpr c3
              have H' := Aside0.mk H
              clear H c2 c3
              go_wp2_with (first | (go_at_call 13; refine (bidi_Class.calls k (d1 : Int) t _ HX.out).mono ?_; rintro e w1 ⟨rfl, hd⟩; have HI3 := Aside0.mk ((hd.below.block _ HSZ.out).trans HI2.out); have HB3 := Aside0.mk (below_step HB2'.out hd.below); clear hd))
              go_roundg k1
              case measure => omega
              case rel => exact ⟨_, ys, HLL, H', HI3, HB3⟩
        · obtain rfl := left_end HL.out c1
          have hnx : ∀ ty, (Instr.next (.pointer (some ⟨w2.heap.size, 0, none⟩)) true ty).run Tryd.prog wr = _ := fun ty => Lib.run_next_end_at wr w2.heap.size s pos ty HI.out c1
          obtain rfl : 0 = r := by simpa [bidi_Base.l0] using HA.out
          clear c1
          go_wp2
          go_ret
          exact ⟨rfl, HB.out⟩
  · rw [if_neg h1] at h
    exact absurd h (by simp)

end Go.Proofs.YtfecolaljnijbaaDoor.C
