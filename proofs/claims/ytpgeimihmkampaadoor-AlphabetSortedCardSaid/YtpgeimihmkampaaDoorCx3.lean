-- WRITTEN BY mkprint.py, a program of this session, over the kit's print of the given program. Not trusted: Lean checks it.
import Derived.Test.YtpgeimihmkampaaDoorCx0
import Derived.Test.YtpgeimihmkampaaDoorCx1
namespace Go.Proofs.YtpgeimihmkampaaDoor.C
open Go.RowKit Go.Proofs.YtpgeimihmkampaaDoorW.PrintWords Go.Proofs.YtpgeimihmkampaaDoorW.PrintLast Go.Proofs.YtpgeimihmkampaaDoorW.PrintMore
attribute [local go_sem] max2_int min2_int max_two min_two max_three min_three max_four min_four   -- for this text's walks alone
set_option linter.unusedVariables false
set_option linter.unusedSimpArgs false

/-! ### alphabet_indices: function 40 -/
set_option maxHeartbeats 8000000 in
set_option maxRecDepth 100000 in
theorem alphabet_indices.calls (A0 : Option Addr) (c0 : Nat) (l : List S42) (w : World) (hr0 : Kd.C k42 w A0 l.length l) (hc0 : l.length ≤ c0) (hg : good l = true) (h8 : (l.length : Int) ≤ 1000) :
    Calls Tryd.prog 40 #[.slice A0 l.length c0] w fun e w' => ∃ b n, e = .returned (.map (some b)) ∧ w.heap.size ≤ b ∧ Tb w' b n (distinct l l.length) (firstIn l l.length) ∧ Below w.heap.size w w' := by
  have HR := Aside0.mk hr0
  have HG := Aside0.mk hg
  have HL := Aside0.mk h8
  have hmm : ∀ W : World, (Instr.makeMap 53 (some (.int .i64 (l.length : Int)))).run Tryd.prog W = .ok (.map (some W.heap.size)) (W.alloc (.map #[] 0)) := fun W => by
    simp [Instr.makeMap, run_underlying Tryd.underlying53, asInt, asIntOf, Result.andThen]
  have q0 : (0 ≤ (l.length : Int)) = True := eq_true (by omega)
  clear hr0 hg h8
  go_enter Tryd.func40, Tryd.ntmps40
  go_wp2
  have hT := Aside0.mk ((tb_made w).congr (g := firstIn l 0) (m' := distinct l 0) (fun x => rfl) rfl)
  go_loopg [13] (l.length + 1) (fun kq v13 w' => ∃ (m n : Nat), v13 = .int .i64 (m : Int) ∧ Aside0 (n ≤ m) ∧ Aside0 (m ≤ l.length) ∧ Aside0 (l.length - m < kq) ∧ Aside0 (Tb w' w.heap.size n (distinct l m) (firstIn l m)) ∧ Aside0 (Below w.heap.size w w'))
  case atStart => exact ⟨0, 0, rfl, ⟨Nat.le_refl _⟩, ⟨Nat.zero_le _⟩, ⟨by omega⟩, hT, ⟨below_alloc (Below.refl _ _) _⟩⟩
  case round =>
    clear hT
    obtain ⟨m, n, rfl, HN, HM, HK, HT, HB⟩ := hrel
    obtain ⟨k1, rfl⟩ : ∃ k1, gk = k1 + 1 := ⟨gk - 1, by have := HK.out; omega⟩
    by_cases c1 : (m : Int) < (l.length : Int)
    · have HRr := Aside0.mk (Kd.C_below HR.out HB.out)
      obtain ⟨ad2, ead2, hx0, hx1⟩ := at_T42 HRr.out (m : Int) (by omega) c1
      subst ead2
      rw [Int.toNat_natCast] at hx0 hx1
      have p1 : (0 ≤ (m : Int)) = True := eq_true (by omega)
      have q2 : ((m : Int) < (l.length : Int)) = True := eq_true c1
      have q2b : decide ((m : Int) < (l.length : Int)) = true := decide_eq_true c1
      have hw := good_at HG.out (i := (m : Int)) (by omega) c1
      have hlk : ∀ o : Obj, (Instr.lookup 53 (.map (some w.heap.size)) (.int .i32 (rd_T42 l m).f0) true).run Tryd.prog (wr.alloc o) = .ok (.tuple #[.int .i64 ((firstIn l m (rd_T42 l m).f0).getD 0), .bool (firstIn l m (rd_T42 l m).f0).isSome]) (wr.alloc o) := fun o => (HT.out.step (below_alloc (Below.refl _ _) o)).look hw
      have HW := Aside0.mk hw
      have HML := Aside0.mk (show m < l.length by omega)
      clear hw c1
      have hwm : wrap64 ((m : Int) + 1) = ((m + 1 : Nat) : Int) := by have := HL.out; have := HML.out; unfold wrap64; omega
      by_cases c2 : (firstIn l m (rd_T42 l m).f0).isSome = true
      · have C2 := Aside0.mk c2
        go_wp2
        go_roundg k1
        case measure => have := HK.out; omega
        case rel => exact ⟨m + 1, n, by rw [hwm], ⟨by have := HN.out; omega⟩, ⟨HML.out⟩, ⟨by have := HK.out; have := HML.out; omega⟩, ⟨(HT.out.step (below_alloc (Below.refl _ _) _)).congr (firstIn_stay HML.out C2.out) (by show _ = _ + _; rw [if_pos C2.out]; rfl)⟩, ⟨below_alloc HB.out _⟩⟩
      · have c2b := Bool.eq_false_iff.mpr c2
        have hnone : firstIn l m (rd_T42 l m).f0 = none := Option.isNone_iff_eq_none.mp (by simpa using c2)
        have HF := Aside0.mk hnone
        rw [hnone] at hlk
        obtain ⟨D, h1, h2, h3, h4, h5⟩ := HT.out
        have hlt : w.heap.size < wr.heap.size := HT.out.lt
        have HND := Aside0.mk (show n < maxLen by have := HN.out; have := HM.out; have := HL.out; unfold maxLen; omega)
        clear c2 hnone HT c2b
        go_wp2_with (first | (at_mapUpdate; refine wpList_mapUpdate_own _ rfl _ _ _ 53 rfl 21 3 keyR Tryd.underlying53 _ w.heap.size n D rfl (h1.alloc _) HND.out _ _ (.int .i32 (rd_T42 l m).f0) rfl rfl (keyR_at HW.out) (.lit (.int .i64 (m : Int))) [] (plainElem_int Tryd.underlying3 (wf_small (by omega) (by have := HM.out; have := HL.out; omega))) ?_; intro w1 hown1 hgrow1; have n1_ := Aside0.mk ((Tb.put h2 h3 h4 h5 HF.out hown1).congr (firstIn_next HML.out HF.out) (m' := distinct l (m + 1)) (by show _ = _ + _; rw [HF.out]; rfl)); have n2_ := Aside0.mk (pw_below_grown (below_alloc HB.out _) (some w.heap.size) (below_size (below_alloc HB.out _)) hgrow1 (fun k hk => by injection hk with hk; omega)); clear hown1 hgrow1 HB hlk h1 h2 h3 h4 h5; have HT := n1_; have HB := n2_; clear n1_ n2_))
        go_roundg k1
        case measure => omega
        case rel => exact ⟨m + 1, n + 1, by rw [hwm], ⟨by have := HN.out; omega⟩, ⟨HML.out⟩, ⟨by have := HK.out; have := HML.out; omega⟩, HT, HB⟩
    · have q2b : decide ((m : Int) < (l.length : Int)) = false := decide_eq_false c1
      have : m = l.length := by have := HM.out; omega
      subst this
      clear c1
      go_wp2
      go_ret
      exact ⟨_, _, rfl, Nat.le_refl _, HT.out, HB.out⟩

end Go.Proofs.YtpgeimihmkampaaDoor.C
