-- WRITTEN BY mkprint.py, a program of this session, over the kit's print of the given program. Not trusted: Lean checks it.
import Derived.Test.YtpkgelednbibpaaDoorCx0
namespace Go.Proofs.YtpkgelednbibpaaDoor.C
open Go.RowKit Go.Proofs.YtpkgelednbibpaaDoorW.PrintWords Go.Proofs.YtpkgelednbibpaaDoorW.PrintLast Go.Proofs.YtpkgelednbibpaaDoorW.PrintMore
attribute [local go_sem] max2_int min2_int max_two min_two max_three min_three max_four min_four   -- for this text's walks alone
set_option linter.unusedVariables false
set_option linter.unusedSimpArgs false

/-! ### pentaglotref01_UTF8: function 20 -/
set_option maxHeartbeats 8000000 in
set_option maxRecDepth 100000 in
theorem pentaglotref01_UTF8.calls (k : Nat) (s : ByteArray) (r : Bool) (w : World) (h : pentaglotref01_UTF8.f k s = some r) :
    Calls Tryd.prog 20 #[.string s] w fun e w' => e = .returned (.bool r) ∧ Below w.heap.size w w' := by
  unfold pentaglotref01_UTF8.f at h
  by_cases h1 : (s.size : Int) ≤ 1000000
  · rw [if_pos h1] at h
    have H' := Aside0.mk h
    have HL := Aside0.mk h1
    clear h h1
    go_enter Tryd.func20, Tryd.ntmps20
    go_wp2
    go_loopg [7] k (fun kq v7 w' => ∃ (pos : Nat), Aside0 (pentaglotref01_UTF8.l0 kq s pos = some r) ∧ Aside0 (kq ≤ k) ∧ Aside0 (w'.heap[w.heap.size]? = some (.stringIter s pos)) ∧ Aside0 (Below w.heap.size w w'))
    case atStart => exact ⟨0, H', ⟨Nat.le_refl _⟩, ⟨blk_new w (.stringIter s 0)⟩, ⟨below_alloc (Below.refl _ _) (.stringIter s 0)⟩⟩
    case round =>
      clear H'
      obtain ⟨pos, HA, HK, HI, HB⟩ := hrel
      cases gk with
      | zero => exact absurd HA.out (by simp [pentaglotref01_UTF8.l0])
      | succ k1 =>
        have H := HA.out
        clear HA
        simp only [pentaglotref01_UTF8.l0] at H
        by_cases c1 : pos < s.size
        · rw [if_pos c1] at H
          have hnx : ∀ ty, (Instr.next (.pointer (some ⟨w.heap.size, 0, none⟩)) true ty).run Tryd.prog wr = _ := fun ty => Lib.run_next_any_at wr w.heap.size s pos ty HI.out c1
          have HI2 := Aside0.mk (Lib.iterAt_heap wr w.heap.size s pos (pos + (Utf8.decode s pos).2) HI.out)
          have HB2 := Aside0.mk (Lib.below_iterAt HB.out (Nat.le_refl _) s (pos + (Utf8.decode s pos).2))
          have C1 := Aside0.mk c1
          clear HI HB
          generalize hd : Utf8.decode s pos = d at *
          obtain ⟨d1, d2⟩ := d
          simp only at H hnx HI2 HB2
          have hp3 : wrap64 ((pos : Int) + 3) = (pos : Int) + 3 := by have := HL.out; have := C1.out; unfold wrap64; omega
          clear c1 hd
          by_cases c2 : (d1 : Int) = 65533
          · rw [if_pos c2] at H
            have c2b : ((d1 : Int) == 65533) = true := beq_iff_eq.mpr c2
            clear c2
            by_cases c3 : (s.size : Int) < (pos : Int) + 3
            · rw [if_pos c3] at H
              obtain rfl := Option.some.inj H
              have c3b : decide ((s.size : Int) < (pos : Int) + 3) = true := decide_eq_true c3
              clear H c3
              go_wp2
              go_ret
              exact ⟨rfl, HB2.out⟩
            · rw [if_neg c3] at H
              have c3b : decide ((s.size : Int) < (pos : Int) + 3) = false := decide_eq_false c3
              have q1 : (0 ≤ (pos : Int)) = True := eq_true (by omega)
              have q2 : ((pos : Int) ≤ (pos : Int) + 3) = True := eq_true (by omega)
              have q3 : ((pos : Int) + 3 ≤ (s.size : Int)) = True := eq_true (by omega)
              have q4 : ((pos : Int) + 3).toNat = pos + 3 := by omega
              clear c3
              by_cases c4 : (s.extract pos (pos + 3)).toList = ([239, 191, 189] : List UInt8)
              · rw [if_pos c4] at H
                have H' := Aside0.mk H
                have c4b : ((s.extract pos (pos + 3)).toList == ([239, 191, 189] : List UInt8)) = true := beq_iff_eq.mpr c4
                clear H c4
                go_wp2
                go_roundg k1
                case measure => omega
                case rel => exact ⟨_, H', ⟨by have := HK.out; omega⟩, HI2, HB2⟩
              · rw [if_neg c4] at H
                obtain rfl := Option.some.inj H
                have c4b : ((s.extract pos (pos + 3)).toList == ([239, 191, 189] : List UInt8)) = false := beq_eq_false_iff_ne.mpr c4
                clear H c4
                go_wp2
                go_ret
                exact ⟨rfl, HB2.out⟩
          · rw [if_neg c2] at H
            have c2b : ((d1 : Int) == 65533) = false := beq_eq_false_iff_ne.mpr c2
            have H' := Aside0.mk H
            clear H c2
            go_wp2
            go_roundg k1
            case measure => omega
            case rel => exact ⟨_, H', ⟨by have := HK.out; omega⟩, HI2, HB2⟩
        · rw [if_neg c1] at H
          have hnx : ∀ ty, (Instr.next (.pointer (some ⟨w.heap.size, 0, none⟩)) true ty).run Tryd.prog wr = _ := fun ty => Lib.run_next_end_at wr w.heap.size s pos ty HI.out c1
          obtain rfl := Option.some.inj H
          clear c1 H
          go_wp2
          go_ret
          exact ⟨rfl, HB.out⟩
  · rw [if_neg h1] at h
    exact absurd h (by simp)

end Go.Proofs.YtpkgelednbibpaaDoor.C
