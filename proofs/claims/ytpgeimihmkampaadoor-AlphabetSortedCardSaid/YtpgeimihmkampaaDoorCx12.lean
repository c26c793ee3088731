-- WRITTEN BY mkprint.py, a program of this session, over the kit's print of the given program. Not trusted: Lean checks it.
import Derived.Test.YtpgeimihmkampaaDoorCx0
import Derived.Test.YtpgeimihmkampaaDoorCx1
import Derived.Test.YtpgeimihmkampaaDoorCx3
import Derived.Test.YtpgeimihmkampaaDoorCx10
namespace Go.Proofs.YtpgeimihmkampaaDoor.C
open Go.RowKit Go.Proofs.YtpgeimihmkampaaDoorW.PrintWords Go.Proofs.YtpgeimihmkampaaDoorW.PrintLast Go.Proofs.YtpgeimihmkampaaDoorW.PrintMore
attribute [local go_sem] max2_int min2_int max_two min_two max_three min_three max_four min_four   -- for this text's walks alone
set_option linter.unusedVariables false
set_option linter.unusedSimpArgs false

/-! ### alphabet_Compare: function 23 -/
set_option maxHeartbeats 8000000 in
set_option maxRecDepth 100000 in
theorem weights_calls (A0 : Option Addr) (c0 : Nat) (l : List S42) (s : ByteArray) (b n bi ba : Nat) (w : World) (ho : okS l s = true) (hi : w.cell? ⟨bi, 0, none⟩ = some (.map (some b))) (ha : w.cell? ⟨ba, 0, none⟩ = some (.slice A0 l.length c0)) (ht : Tb w b n (distinct l l.length) (firstIn l l.length)) :
    Calls Tryd.prog 51 #[.string s, .pointer (some ⟨bi, 0, none⟩), .pointer (some ⟨ba, 0, none⟩)] w fun e w' => ∃ v0_ : Value, e = .returned v0_ ∧ Kd.R (Kd.int .i64) 3 w' w.heap.size (fun _ => True) v0_ (weights l s) ∧ Below w.heap.size w w' := by
  have HO := Aside0.mk (okS_at ho)
  have HI0 := Aside0.mk hi
  have HA0 := Aside0.mk ha
  have HT0 := Aside0.mk ht
  clear ho hi ha ht
  go_enter Tryd.func51, Tryd.ntmps51
  go_wp2
  go_loopg [5] (s.size + 1) (fun kq v5 w' => ∃ (pos : Nat) (xs ys : List Int), Aside0 (Left s kq pos xs) ∧ Aside0 (ys ++ xs.map (weight l) = weights l s) ∧ Aside0 (w'.heap[w.heap.size]? = some (.stringIter s pos)) ∧ Aside0 (ys.length ≤ pos) ∧ Aside0 (Kd.R (Kd.int .i64) 3 w' w.heap.size (fun k => k ≠ w.heap.size) v5 ys) ∧ Aside0 (Below w.heap.size w w'))
  case atStart => exact ⟨0, rns s, [], ⟨left_start s⟩, ⟨rfl⟩, ⟨blk_new w (.stringIter s 0)⟩, ⟨Nat.le_refl _⟩, ⟨Kd.R_nil _ _ _ _ _⟩, ⟨below_alloc (Below.refl _ _) (.stringIter s 0)⟩⟩
  case round =>
    obtain ⟨pos, xs, ys, HL, HA, HI, HN, HR, HB⟩ := hrel
    by_cases c1 : pos < s.size
    · obtain ⟨k1, zs, rfl, rfl, HL1⟩ := left_next HL.out c1
      have hnx : ∀ ty, (Instr.next (.pointer (some ⟨w.heap.size, 0, none⟩)) true ty).run Tryd.prog wr = _ := fun ty => Lib.run_next_any_at wr w.heap.size s pos ty HI.out c1
      have HI2 := Aside0.mk (Lib.iterAt_heap wr w.heap.size s pos (pos + (Utf8.decode s pos).2) HI.out)
      have HB2 := Aside0.mk (Lib.below_iterAt HB.out (Nat.le_refl _) s (pos + (Utf8.decode s pos).2))
      have HR2 := Aside0.mk (Kd.R_grown HR.out (grown_iterAt wr w.heap.size s (pos + (Utf8.decode s pos).2)) (fun k hk e => hk (by injection e)))
      have HT2 := Aside0.mk (HT0.out.step HB2.out)
      have hlk := HT2.out.look (wf_rune s pos)
      have hci := pw_cell_below HB2.out HI0.out
      have hca := pw_cell_below HB2.out HA0.out
      have HSZ := Aside0.mk (show w.heap.size < (wr.iterAt w.heap.size s (pos + (Utf8.decode s pos).2)).heap.size from (Array.getElem?_eq_some_iff.1 HI2.out).1)
      have HN2 := Aside0.mk (show ys.length + 1 ≤ pos + (Utf8.decode s pos).2 ∧ ys.length < s.size by have := HN.out; have := Lib.decode_width_pos s pos c1; omega)
      have hd1 := rune_range s pos
      have HLL := Aside0.mk HL1
      clear HL1 HI HB HL HR HN
      generalize hd : Utf8.decode s pos = d at *
      obtain ⟨d1, d2⟩ := d
      simp only at HLL HA hnx HI2 HB2 HR2 HT2 HN2 HSZ hlk hd1 hci hca
      clear hd c1
      have hw : wrap64 ((l.length : Int) + (d1 : Int)) = (l.length : Int) + (d1 : Int) := by have := HO.out.1.2; unfold wrap64; omega
      have hw1 : wrap64 (d1 : Int) = (d1 : Int) := by unfold wrap64; omega
      clear hd1
      generalize wr.iterAt w.heap.size s (pos + d2) = wi at *
      cases hf : firstIn l l.length (d1 : Int) with
      | none =>
        rw [hf] at hlk
        have HA' : Aside0 ((ys ++ [(l.length : Int) + (d1 : Int)]) ++ zs.map (weight l) = weights l s) := ⟨by rw [← HA.out]; simp [weight, hf]⟩
        clear hf HA
        go_wp2_with (first | (at_builtin; refine Kd.R_append (Kd.int .i64) (w0 := w) w.heap.size rfl (.tmp 26) (.tmp 32) 68 3 (.int .i64 0) 8 rfl Tryd.underlying68 wInfo3 rfl (by decide) (by omega) _ ys ((l.length : Int) + (d1 : Int)) [.int .i64 ((l.length : Int) + (d1 : Int))] (fun k => k ≠ w.heap.size) (fun _ => False) rfl (by first | (go_simp; done) | (go_simp; rfl)) rfl (fun _ hk => hk.elim) (fun k hk => by have := HSZ.out; omega) HR2.out HB2.out (by have := HSZ.out; omega) (by have := HO.out.2; have := HN2.out.2; omega) ?_; intro v1 w1 ho hb hg hat; have n0_ := Aside0.mk ho; have n1_ := Aside0.mk hb; have n2_ := Aside0.mk (blk_grown HI2.out hg (fun e => HR2.out.1 _ e.symm rfl)); clear ho hb hg hat hlk hci hca HB2 HR2 HI2; have HB2 := n1_; have HR2 := n0_; have HI2 := n2_; clear n0_ n1_ n2_))
        go_roundg k1
        case measure => omega
        case rel => exact ⟨_, zs, ys ++ [(l.length : Int) + (d1 : Int)], HLL, HA', HI2, ⟨by have := HN2.out.1; simpa using this⟩, HR2, HB2⟩
      | some i =>
        rw [hf] at hlk
        have HA' : Aside0 ((ys ++ [i]) ++ zs.map (weight l) = weights l s) := ⟨by rw [← HA.out]; simp [weight, hf]⟩
        clear hf HA
        go_wp2_with (first | (at_builtin; refine Kd.R_append (Kd.int .i64) (w0 := w) w.heap.size rfl (.tmp 22) (.tmp 24) 68 3 (.int .i64 0) 8 rfl Tryd.underlying68 wInfo3 rfl (by decide) (by omega) _ ys i [.int .i64 i] (fun k => k ≠ w.heap.size) (fun _ => False) rfl (by first | (go_simp; done) | (go_simp; rfl)) rfl (fun _ hk => hk.elim) (fun k hk => by have := HSZ.out; omega) HR2.out HB2.out (by have := HSZ.out; omega) (by have := HO.out.2; have := HN2.out.2; omega) ?_; intro v1 w1 ho hb hg hat; have n0_ := Aside0.mk ho; have n1_ := Aside0.mk hb; have n2_ := Aside0.mk (blk_grown HI2.out hg (fun e => HR2.out.1 _ e.symm rfl)); clear ho hb hg hat hlk hci hca HB2 HR2 HI2; have HB2 := n1_; have HR2 := n0_; have HI2 := n2_; clear n0_ n1_ n2_))
        go_roundg k1
        case measure => omega
        case rel => exact ⟨_, zs, ys ++ [i], HLL, HA', HI2, ⟨by have := HN2.out.1; simpa using this⟩, HR2, HB2⟩
    · obtain rfl := left_end HL.out c1
      have hnx : ∀ ty, (Instr.next (.pointer (some ⟨w.heap.size, 0, none⟩)) true ty).run Tryd.prog wr = _ := fun ty => Lib.run_next_end_at wr w.heap.size s pos ty HI.out c1
      obtain rfl : ys = weights l s := by simpa using HA.out
      clear c1
      go_wp2
      go_ret
      exact ⟨_, rfl, Kd.R_mono HR.out (fun _ _ => trivial), HB.out⟩
set_option maxHeartbeats 8000000 in
set_option maxRecDepth 100000 in
theorem collate_calls (k : Nat) (A0 : Option Addr) (c0 : Nat) (l : List S42) (s t : ByteArray) (r : Int) (b n bi ba bw : Nat) (w : World) (hs : okS l s = true) (ht : okS l t = true) (hi : w.cell? ⟨bi, 0, none⟩ = some (.map (some b))) (ha : w.cell? ⟨ba, 0, none⟩ = some (.slice A0 l.length c0)) (hw : w.cell? ⟨bw, 0, none⟩ = some (.func (.func 51) #[] #[.pointer (some ⟨bi, 0, none⟩), .pointer (some ⟨ba, 0, none⟩)])) (hT : Tb w b n (distinct l l.length) (firstIn l l.length))
    (h : slices_Compare_int_int.f k (weights l s) (weights l t) = some r) :
    Calls Tryd.prog 52 #[.string s, .string t, .pointer (some ⟨bw, 0, none⟩)] w fun e w' => e = .returned (.int .i64 r) ∧ Below w.heap.size w w' := by
  have HS := Aside0.mk hs
  have HT := Aside0.mk ht
  have HI := Aside0.mk hi
  have HA := Aside0.mk ha
  have HW := Aside0.mk hw
  have HM := Aside0.mk hT
  have H := Aside0.mk h
  have HB0 := Aside0.mk (Below.refl w.heap.size w)
  clear hs ht hi ha hT h
  go_enter Tryd.func52, Tryd.ntmps52
  go_wp2
  go_region_held3 (fun w' => w'.cell? ⟨bw, 0, none⟩ = some (.func (.func 51) #[] #[.pointer (some ⟨bi, 0, none⟩), .pointer (some ⟨ba, 0, none⟩)]) ∧ Aside0 (Below w.heap.size w w'))
    (first | assumption | exact And.intro (by first | assumption | go_keep) ⟨(Below.refl _ _).drew⟩)
    (first | (go_at_call 51; have hX := (And.right ‹_ ∧ Aside0 (Below w.heap.size w _)›); (with_reducible refine (weights_calls A0 c0 l s b n bi ba _ HS.out (pw_cell_below hX.out HI.out) (pw_cell_below hX.out HA.out) (HM.out.step hX.out)).mono ?_); rintro e w1 ⟨v1, rfl, hR, hb⟩; have hnew := And.intro (pw_cell_below (below_step hX.out hb) HW.out) (Aside0.mk (below_step hX.out hb)); obtain ⟨A1, c1, rfl, hl1, hC1⟩ := Kd.R_reads hR; have HC1 := Aside0.mk hC1; have HL1 := Aside0.mk hl1; clear hC1 hl1 hR hb)
           | (go_at_call 51; have hX := (And.right ‹_ ∧ Aside0 (Below w.heap.size w _)›); (with_reducible refine (weights_calls A0 c0 l t b n bi ba _ HT.out (pw_cell_below hX.out HI.out) (pw_cell_below hX.out HA.out) (HM.out.step hX.out)).mono ?_); rintro e w2 ⟨v2, rfl, hR, hb⟩; have hnew2 := And.intro (pw_cell_below (below_step hX.out hb) HW.out) (Aside0.mk (below_step hX.out hb)); obtain ⟨A2, c2, rfl, hl2, hC2⟩ := Kd.R_reads hR; have HC2 := Aside0.mk hC2; have HL2 := Aside0.mk hl2; have HC3 := Aside0.mk (Kd.C_below HC1.out hb); clear hC2 hl2 hR hb)
           | (go_at_call 53; have hX := (And.right ‹_ ∧ Aside0 (Below w.heap.size w _)›); (with_reducible refine (slices_Compare_int_int.calls k A1 c1 (weights l s) A2 c2 (weights l t) r _ HC3.out HL1.out HC2.out HL2.out H.out).mono ?_); rintro e w3 ⟨rfl, hd⟩; have hnew3 := And.intro (pw_cell_below (below_step hX.out hd.below) HW.out) (Aside0.mk (below_step hX.out hd.below)); clear hd))
  all_goals
    have hX := (And.right ‹_ ∧ Aside0 (Below w.heap.size w _)›)
    go_wp2
    go_ret
    exact ⟨rfl, hX.out⟩
set_option maxHeartbeats 8000000 in
set_option maxRecDepth 100000 in
theorem collation_calls (A0 : Option Addr) (c0 : Nat) (l : List S42) (w : World) (hr0 : Kd.C k42 w A0 l.length l) (hc0 : l.length ≤ c0) (ho : okA l = true) :
    Calls Tryd.prog 44 #[.slice A0 l.length c0] w fun e w' => ∃ b n bi ba bw, e = .returned (.func (.func 52) #[] #[.pointer (some ⟨bw, 0, none⟩)]) ∧ w'.cell? ⟨bi, 0, none⟩ = some (.map (some b)) ∧ w'.cell? ⟨ba, 0, none⟩ = some (.slice A0 l.length c0) ∧ w'.cell? ⟨bw, 0, none⟩ = some (.func (.func 51) #[] #[.pointer (some ⟨bi, 0, none⟩), .pointer (some ⟨ba, 0, none⟩)]) ∧ Tb w' b n (distinct l l.length) (firstIn l l.length) ∧ Below w.heap.size w w' := by
  have HR := Aside0.mk hr0
  have HO := Aside0.mk (okA_at ho)
  clear hr0 ho
  go_enter Tryd.func44, Tryd.ntmps44
  go_wp2_with (first | (go_at_call 40; refine (alphabet_indices.calls A0 c0 l _ (Kd.C_below HR.out (below_alloc (Below.refl _ _) _)) hc0 HO.out.1 HO.out.2).mono ?_; rintro e w1 ⟨b, n, rfl, hb, ht, hbel⟩; have HT := Aside0.mk ht; have HB1 := Aside0.mk hbel; have HBL := Aside0.mk hb; clear hb ht hbel))
  go_ret
  have hz : (w1.alloc (Obj.cells #[Value.map (some b)] 53)).heap.size = w1.heap.size + 1 := by simp
  have hn := blk_new (w1.alloc (Obj.cells #[Value.map (some b)] 53)) (Obj.cells #[Value.func (Fn.func 51) #[] #[Value.pointer (some { block := w1.heap.size, off := 0 }), Value.pointer (some { block := w.heap.size, off := 0 })]] 69)
  rw [hz] at hn
  have hi := blk_alloc (blk_new w1 (Obj.cells #[Value.map (some b)] 53)) (Obj.cells #[Value.func (Fn.func 51) #[] #[Value.pointer (some { block := w1.heap.size, off := 0 }), Value.pointer (some { block := w.heap.size, off := 0 })]] 69)
  have hbel : Below w1.heap.size w1 ((w1.alloc (Obj.cells #[Value.map (some b)] 53)).alloc (Obj.cells #[Value.func (Fn.func 51) #[] #[Value.pointer (some { block := w1.heap.size, off := 0 }), Value.pointer (some { block := w.heap.size, off := 0 })]] 69)) := below_alloc (below_alloc (Below.refl _ _) _) _
  have ha : w1.cell? ⟨w.heap.size, 0, none⟩ = some (.slice A0 l.length c0) := pw_cell_below HB1.out ((blk_cell (blk_new w (.cells #[Value.slice A0 l.length c0] 22)) 0).trans rfl)
  exact ⟨b, n, w1.heap.size, w.heap.size, w1.heap.size + 1, rfl, (blk_cell hi 0).trans rfl, pw_cell_below hbel ha, (blk_cell hn 0).trans rfl, HT.out.step hbel, below_step (below_step (below_alloc (Below.refl _ _) _) HB1.out) hbel⟩
set_option maxHeartbeats 8000000 in
set_option maxRecDepth 100000 in
theorem alphabet_Compare.calls (k : Nat) (A0 : Option Addr) (c0 : Nat) (l : List S42) (s t : ByteArray) (r : Int) (w : World) (hr0 : Kd.C k42 w A0 l.length l) (hc0 : l.length ≤ c0) (h : alphabet_Compare.f k l s t = some r) :
    Calls Tryd.prog 23 #[.slice A0 l.length c0, .string s, .string t] w fun e w' => e = .returned (.int .i64 r) ∧ Below w.heap.size w w' := by
  unfold alphabet_Compare.f at h
  by_cases hs : okS l s = true
  · rw [if_pos hs] at h
    by_cases ht : okS l t = true
    · rw [if_pos ht] at h
      have HR := Aside0.mk hr0
      have HS := Aside0.mk hs
      have HT := Aside0.mk ht
      have H := Aside0.mk h
      have HO := Aside0.mk (show okA l = true by unfold okS at hs; simp only [Bool.and_eq_true] at hs; exact hs.1)
      clear hr0 hs ht h
      go_enter Tryd.func23, Tryd.ntmps23
      go_wp2_with (first | (go_at_call 44; refine (collation_calls A0 c0 l _ HR.out hc0 HO.out).mono ?_; rintro e w1 ⟨b, n, bi, ba, bw, rfl, hi, ha, hw, hT, hbel⟩; have HI := Aside0.mk hi; have HA := Aside0.mk ha; have HW := Aside0.mk hw; have HM := Aside0.mk hT; have HB1 := Aside0.mk hbel; clear hi ha hw hT hbel) | (go_at_call 52; refine (collate_calls k A0 c0 l s t r b n bi ba bw _ HS.out HT.out HI.out HA.out HW.out HM.out H.out).mono ?_; rintro e w2 ⟨rfl, hb⟩; have HB2 := Aside0.mk (below_step HB1.out hb); clear hb))
      go_ret
      exact ⟨rfl, HB2.out⟩
    · rw [if_neg ht] at h
      exact absurd h (by simp)
  · rw [if_neg hs] at h
    exact absurd h (by simp)

end Go.Proofs.YtpgeimihmkampaaDoor.C
