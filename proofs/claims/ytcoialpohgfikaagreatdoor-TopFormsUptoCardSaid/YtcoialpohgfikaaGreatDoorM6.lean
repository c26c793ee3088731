/- A part of the proof of TopForms, made short by a program. -/
import Derived.Test.YtcoialpohgfikaaGreatDoorM2
import Derived.Test.YtcoialpohgfikaaGreatDoorM3
import Derived.Test.YtcoialpohgfikaaGreatDoorM4
import Derived.Test.YtcoialpohgfikaaGreatDoorM5
namespace Go.Proofs.YtcoialpohgfikaaGreatDoor.C
open Go.RowKit Go.Proofs.YtcoialpohgfikaaGreatDoorW.PrintWords Go.Proofs.YtcoialpohgfikaaGreatDoorW.PrintLast Go.Proofs.YtcoialpohgfikaaGreatDoorW.PrintMore
attribute [local go_sem] max2_int min2_int max_two min_two max_three min_three max_four min_four
set_option linter.unusedVariables false
set_option maxHeartbeats 8000000
set_option maxRecDepth 100000
set_option linter.unusedSimpArgs false
theorem feature_Unify.calls (A0 : Option Addr) (c0 : Nat) (a : List S65) (A1 : Option Addr) (c1 : Nat) (b : List S65) (r1 : List S65) (r2 : Bool) (w : World) (hr0 : Kd.C k65 w A0 a.length a) (hc0 : a.length ≤ c0) (hr1 : Kd.C k65 w A1 b.length b) (hc1 : b.length ≤ c1) (h : feature_Unify.f a b = some (r1, r2)) :
  Calls Tryz.prog 48 #[.slice A0 a.length c0, .slice A1 b.length c1] w fun e w' => ∃ v0_ : Value, e = .returned (.tuple #[v0_, .bool r2]) ∧ Kd.R k65 65 w' w.heap.size (fun _ => True) v0_ r1 ∧ Below w.heap.size w w' := by
 unfold feature_Unify.f at h
 by_cases ha : (a.length : Int) ≤ 1000000
 ·by_cases hb : (b.length : Int) ≤ 1000000
  ·rw [if_pos ha, if_pos hb] at h
   have HH := am (Option.some.inj h)
   have HA := am hr0
   have HB0 := am hr1
   have LA := am ha
   have LB := am hb
   obtain ⟨q, hq⟩ : ∃ q, a.length + b.length = q := ⟨_, rfl⟩
   have mk := make32 q (by omega)
   have hwl : wrap64 ((a.length : Int) + (b.length : Int)) = (q : Int) := by unfold wrap64; omega
   have q0 : (0 ≤ (q : Int)) = True := eq_true (by omega)
   have HQ := am hq
   have HQ2 := am (show (q : Int) ≤ 2000000 by omega)
   clear hq
   clear hr0 hr1 hc0 hc1 h ha hb
   go_enter Tryz.func48, Tryz.ntmps48
   go_wp2
   clear hwl mk q0
   go_loopg [6, 7, 8] (q + 1) (fun kq v6 v7 v8 w' => ∃ (i k : Nat) (out : List S65), v7 = .int .i64 (i : Int) ∧ v8 = .int .i64 (k : Int) ∧ Aside0 (i ≤ a.length) ∧ Aside0 (k ≤ b.length) ∧ Aside0 ((a.length - i) + (b.length - k) < kq) ∧ Aside0 (uniG kq (a.drop i) (b.drop k) out = (r1, r2)) ∧ Aside0 (out.length + (a.length - i) + (b.length - k) ≤ a.length + b.length) ∧ Aside0 (Kd.R k65 65 w' w.heap.size (fun _ => True) v6 out) ∧ Aside0 (Below w.heap.size w w'))
   case atStart => exact ⟨0, 0, [], rfl, rfl, ⟨Nat.zero_le _⟩, ⟨Nat.zero_le _⟩, ⟨by have := HQ.out; omega⟩, ⟨by have := HQ.out; have h2 := HH.out; rw [this] at h2; exact h2⟩, ⟨by simp⟩, ⟨made_row65 w q HQ2.out⟩, ⟨below_alloc (Below.refl _ _) _⟩⟩
   case round =>
    obtain ⟨i, k, out, rfl, rfl, HI, HKK, HK, HU, HOL0, HO, HB⟩ := hrel
    obtain ⟨k1, rfl⟩ : ∃ k1, gk = k1 + 1 := ⟨gk - 1, by have := HK.out; omega⟩
    have HSZ := am (below_size HB.out)
    have HOL := am (show out.length ≤ 2000000 by have := HOL0.out; have := LA.out; have := LB.out; omega)
    by_cases ci : i < a.length
    ·by_cases ck : k < b.length
     ·have hu := HU.out
      rw [List.drop_eq_getElem_cons ci, List.drop_eq_getElem_cons ck, rd65_at a i ci, rd65_at b k ck, uniG] at hu
      obtain ⟨ad2, ead2, hx20, hx21⟩ := at_T65 (Kd.C_below HA.out HB.out) (i : Int) (by omega) (by omega)
      subst ead2
      rw [Int.toNat_natCast] at hx20 hx21
      have p2 : (0 ≤ (i : Int)) = True := eq_true (by omega)
      have q2 : ((i : Int) < (a.length : Int)) = True := eq_true (by omega)
      obtain ⟨ad3, ead3, hx30, hx31⟩ := at_T65 (Kd.C_below HB0.out HB.out) (k : Int) (by omega) (by omega)
      subst ead3
      rw [Int.toNat_natCast] at hx30 hx31
      have p3 : (0 ≤ (k : Int)) = True := eq_true (by omega)
      have q3 : ((k : Int) < (b.length : Int)) = True := eq_true (by omega)
      have d1 : decide ((i : Int) < (a.length : Int)) = true := decide_eq_true (by omega)
      have d2 : decide ((k : Int) < (b.length : Int)) = true := decide_eq_true (by omega)
      have e1 : ((i : Int) == (a.length : Int)) = false := beq_eq_false_iff_ne.mpr (by omega)
      have e1n : (i == a.length) = false := beq_eq_false_iff_ne.mpr (by omega)
      have e2 : ((k : Int) == (b.length : Int)) = false := beq_eq_false_iff_ne.mpr (by omega)
      have e2n : (k == b.length) = false := beq_eq_false_iff_ne.mpr (by omega)
      by_cases l1 : Op.bytesLess (rd_T65 a (i : Int)).f0.toList (rd_T65 b (k : Int)).f0.toList = true
      ·rw [if_pos l1, ← rd65_at b k ck, ← List.drop_eq_getElem_cons ck] at hu
       have NI : Aside0 (i + 1 ≤ a.length) := ⟨by omega⟩
       have NK : Aside0 (k ≤ b.length) := ⟨by omega⟩
       have NM : Aside0 ((a.length - (i + 1)) + (b.length - (k)) < k1) := ⟨by have := HK.out; omega⟩
       have NL : Aside0 (out.length + 1 + (a.length - (i + 1)) + (b.length - (k)) ≤ a.length + b.length) := ⟨by have := HOL0.out; omega⟩
       have HU2 := am hu
       clear hu
       have hwi : wrap64 ((i : Int) + 1) = (i : Int) + 1 := by have := LA.out; have := HI.out; unfold wrap64; omega
       have hwk : wrap64 ((k : Int) + 1) = (k : Int) + 1 := by have := LB.out; have := HKK.out; unfold wrap64; omega
       clear ci ck
       go_wp2
       go_quiet (fail)
       go_wp2_with (first | (at_builtin; refine Kd.R_append k65 (w0 := w) w.heap.size rfl (.tmp 60) (.tmp 65) 32 65 (.agg #[.string ⟨#[]⟩, .string ⟨#[]⟩]) 32 rfl Tryz.underlying32 wInfo65 rfl (by decide) (by omega) _ out (rd_T65 a (i : Int)) [.string (rd_T65 a (i : Int)).f0, .string (rd_T65 a (i : Int)).f1] (fun _ => True) (fun _ => False) rfl (by first | (go_simp; done) | (go_simp; rfl)) (k65_mkM _ _ _ _) (fun _ hk => hk.elim) (fun _ _ => trivial) (rR HO) bq HSZ.out (by have := HOL.out; omega) ?_; intro v1 w1 ho hb hg hat; have HO1 := am ho; have HB1 := am hb; clear ho hb hg hat))
       go_roundg k1
       case measure => omega
       case rel => exact ⟨i + 1, k, _, by first | rfl | (rw [hwi]; rfl), by first | rfl | (rw [hwk]; rfl), NI, NK, NM, HU2, ⟨by rw [List.length_append]; have := NL.out; simp; omega⟩, HO1, HB1⟩
      rw [if_neg l1] at hu
      have l1b := Bool.eq_false_iff.mpr l1
      clear l1
      by_cases l2 : Op.bytesLess (rd_T65 b (k : Int)).f0.toList (rd_T65 a (i : Int)).f0.toList = true
      ·rw [if_pos l2, ← rd65_at a i ci, ← List.drop_eq_getElem_cons ci] at hu
       have NI : Aside0 (i ≤ a.length) := ⟨by omega⟩
       have NK : Aside0 (k + 1 ≤ b.length) := ⟨by omega⟩
       have NM : Aside0 ((a.length - (i)) + (b.length - (k + 1)) < k1) := ⟨by have := HK.out; omega⟩
       have NL : Aside0 (out.length + 1 + (a.length - (i)) + (b.length - (k + 1)) ≤ a.length + b.length) := ⟨by have := HOL0.out; omega⟩
       have HU2 := am hu
       clear hu
       have hwi : wrap64 ((i : Int) + 1) = (i : Int) + 1 := by have := LA.out; have := HI.out; unfold wrap64; omega
       have hwk : wrap64 ((k : Int) + 1) = (k : Int) + 1 := by have := LB.out; have := HKK.out; unfold wrap64; omega
       clear ci ck
       go_wp2
       go_quiet (fail)
       go_wp2
       go_quiet (fail)
       go_wp2_with (first | (at_builtin; refine Kd.R_append k65 (w0 := w) w.heap.size rfl (.tmp 87) (.tmp 92) 32 65 (.agg #[.string ⟨#[]⟩, .string ⟨#[]⟩]) 32 rfl Tryz.underlying32 wInfo65 rfl (by decide) (by omega) _ out (rd_T65 b (k : Int)) [.string (rd_T65 b (k : Int)).f0, .string (rd_T65 b (k : Int)).f1] (fun _ => True) (fun _ => False) rfl (by first | (go_simp; done) | (go_simp; rfl)) (k65_mkM _ _ _ _) (fun _ hk => hk.elim) (fun _ _ => trivial) (rR HO) bq HSZ.out (by have := HOL.out; omega) ?_; intro v1 w1 ho hb hg hat; have HO1 := am ho; have HB1 := am hb; clear ho hb hg hat))
       go_roundg k1
       case measure => omega
       case rel => exact ⟨i, k + 1, _, by first | rfl | (rw [hwi]; rfl), by first | rfl | (rw [hwk]; rfl), NI, NK, NM, HU2, ⟨by rw [List.length_append]; have := NL.out; simp; omega⟩, HO1, HB1⟩
      rw [if_neg l2] at hu
      have l2b := Bool.eq_false_iff.mpr l2
      clear l2
      by_cases l3 : (rd_T65 a (i : Int)).f1.toList = (rd_T65 b (k : Int)).f1.toList
      ·rw [if_pos l3] at hu
       have l3b : ((rd_T65 a (i : Int)).f1.toList != (rd_T65 b (k : Int)).f1.toList) = false := bne_eq_false_iff_eq.mpr l3
       have l3c : ((rd_T65 a (i : Int)).f1.toList == (rd_T65 b (k : Int)).f1.toList) = true := beq_iff_eq.mpr l3
       clear l3
       have NI : Aside0 (i + 1 ≤ a.length) := ⟨by omega⟩
       have NK : Aside0 (k + 1 ≤ b.length) := ⟨by omega⟩
       have NM : Aside0 ((a.length - (i + 1)) + (b.length - (k + 1)) < k1) := ⟨by have := HK.out; omega⟩
       have NL : Aside0 (out.length + 1 + (a.length - (i + 1)) + (b.length - (k + 1)) ≤ a.length + b.length) := ⟨by have := HOL0.out; omega⟩
       have HU2 := am hu
       clear hu
       have hwi : wrap64 ((i : Int) + 1) = (i : Int) + 1 := by have := LA.out; have := HI.out; unfold wrap64; omega
       have hwk : wrap64 ((k : Int) + 1) = (k : Int) + 1 := by have := LB.out; have := HKK.out; unfold wrap64; omega
       clear ci ck
       go_wp2
       go_quiet (fail)
       go_wp2
       go_quiet (fail)
       go_wp2
       go_quiet (fail)
       go_wp2_with (first | (at_builtin; refine Kd.R_append k65 (w0 := w) w.heap.size rfl (.tmp 25) (.tmp 30) 32 65 (.agg #[.string ⟨#[]⟩, .string ⟨#[]⟩]) 32 rfl Tryz.underlying32 wInfo65 rfl (by decide) (by omega) _ out (rd_T65 a (i : Int)) [.string (rd_T65 a (i : Int)).f0, .string (rd_T65 a (i : Int)).f1] (fun _ => True) (fun _ => False) rfl (by first | (go_simp; done) | (go_simp; rfl)) (k65_mkM _ _ _ _) (fun _ hk => hk.elim) (fun _ _ => trivial) (rR HO) bq HSZ.out (by have := HOL.out; omega) ?_; intro v1 w1 ho hb hg hat; have HO1 := am ho; have HB1 := am hb; clear ho hb hg hat))
       go_roundg k1
       case measure => omega
       case rel => exact ⟨i + 1, k + 1, _, by first | rfl | (rw [hwi]; rfl), by first | rfl | (rw [hwk]; rfl), NI, NK, NM, HU2, ⟨by rw [List.length_append]; have := NL.out; simp; omega⟩, HO1, HB1⟩
      rw [if_neg l3] at hu
      have l3b : ((rd_T65 a (i : Int)).f1.toList != (rd_T65 b (k : Int)).f1.toList) = true := bne_iff_ne.mpr l3
      have l3c : ((rd_T65 a (i : Int)).f1.toList == (rd_T65 b (k : Int)).f1.toList) = false := beq_eq_false_iff_ne.mpr l3
      obtain ⟨rfl, rfl⟩ := Prod.mk.inj hu
      clear l3 ci ck hu
      go_wp2
      go_quiet (fail)
      go_wp2
      go_quiet (fail)
      go_wp2
      go_quiet (fail)
      go_wp2
      go_ret2
      exact ⟨_, rfl, Kd.R_nil _ _ _ _ _, bq⟩
     obtain rfl : k = b.length := by have := HKK.out; omega
     have hu := HU.out
     rw [List.drop_eq_getElem_cons ci, List.drop_eq_nil_of_le (Nat.le_refl _), rd65_at a i ci, uniG] at hu
     obtain ⟨ad2, ead2, hx20, hx21⟩ := at_T65 (Kd.C_below HA.out HB.out) (i : Int) (by omega) (by omega)
     subst ead2
     rw [Int.toNat_natCast] at hx20 hx21
     have p2 : (0 ≤ (i : Int)) = True := eq_true (by omega)
     have q2 : ((i : Int) < (a.length : Int)) = True := eq_true (by omega)
     have d1 : decide ((i : Int) < (a.length : Int)) = true := decide_eq_true (by omega)
     have d2 : decide ((b.length : Int) < (b.length : Int)) = false := decide_eq_false (by omega)
     have e2 : ((b.length : Int) == (b.length : Int)) = true := beq_iff_eq.mpr rfl
     have e2n : (b.length == b.length) = true := beq_iff_eq.mpr rfl
     replace hu : uniG k1 (a.drop (i + 1)) (b.drop b.length) (out ++ [rd_T65 a (i : Int)]) = (r1, r2) := by rw [List.drop_eq_nil_of_le (Nat.le_refl b.length)]; exact hu
     have NI : Aside0 (i + 1 ≤ a.length) := ⟨by omega⟩
     have NK : Aside0 (b.length ≤ b.length) := ⟨by omega⟩
     have NM : Aside0 ((a.length - (i + 1)) + (b.length - (b.length)) < k1) := ⟨by have := HK.out; omega⟩
     have NL : Aside0 (out.length + 1 + (a.length - (i + 1)) + (b.length - (b.length)) ≤ a.length + b.length) := ⟨by have := HOL0.out; omega⟩
     have HU2 := am hu
     clear hu
     have hwi : wrap64 ((i : Int) + 1) = (i : Int) + 1 := by have := LA.out; have := HI.out; unfold wrap64; omega
     clear ci ck
     go_wp2
     go_quiet (fail)
     go_wp2_with (first | (at_builtin; refine Kd.R_append k65 (w0 := w) w.heap.size rfl (.tmp 60) (.tmp 65) 32 65 (.agg #[.string ⟨#[]⟩, .string ⟨#[]⟩]) 32 rfl Tryz.underlying32 wInfo65 rfl (by decide) (by omega) _ out (rd_T65 a (i : Int)) [.string (rd_T65 a (i : Int)).f0, .string (rd_T65 a (i : Int)).f1] (fun _ => True) (fun _ => False) rfl (by first | (go_simp; done) | (go_simp; rfl)) (k65_mkM _ _ _ _) (fun _ hk => hk.elim) (fun _ _ => trivial) (rR HO) bq HSZ.out (by have := HOL.out; omega) ?_; intro v1 w1 ho hb hg hat; have HO1 := am ho; have HB1 := am hb; clear ho hb hg hat))
     go_roundg k1
     case measure => omega
     case rel => exact ⟨i + 1, b.length, _, by first | rfl | (rw [hwi]; rfl), by first | rfl | (rw [hwk]; rfl), NI, NK, NM, HU2, ⟨by rw [List.length_append]; have := NL.out; simp; omega⟩, HO1, HB1⟩
    obtain rfl : i = a.length := by have := HI.out; omega
    by_cases ck : k < b.length
    ·have hu := HU.out
     rw [List.drop_eq_getElem_cons ck, List.drop_eq_nil_of_le (Nat.le_refl _), rd65_at b k ck, uniG] at hu
     obtain ⟨ad3, ead3, hx30, hx31⟩ := at_T65 (Kd.C_below HB0.out HB.out) (k : Int) (by omega) (by omega)
     subst ead3
     rw [Int.toNat_natCast] at hx30 hx31
     have p3 : (0 ≤ (k : Int)) = True := eq_true (by omega)
     have q3 : ((k : Int) < (b.length : Int)) = True := eq_true (by omega)
     have d1 : decide ((a.length : Int) < (a.length : Int)) = false := decide_eq_false (by omega)
     have d2 : decide ((k : Int) < (b.length : Int)) = true := decide_eq_true (by omega)
     have e1 : ((a.length : Int) == (a.length : Int)) = true := beq_iff_eq.mpr rfl
     have e1n : (a.length == a.length) = true := beq_iff_eq.mpr rfl
     have e2 : ((k : Int) == (b.length : Int)) = false := beq_eq_false_iff_ne.mpr (by omega)
     have e2n : (k == b.length) = false := beq_eq_false_iff_ne.mpr (by omega)
     replace hu : uniG k1 (a.drop a.length) (b.drop (k + 1)) (out ++ [rd_T65 b (k : Int)]) = (r1, r2) := by rw [List.drop_eq_nil_of_le (Nat.le_refl a.length)]; exact hu
     have NI : Aside0 (a.length ≤ a.length) := ⟨by omega⟩
     have NK : Aside0 (k + 1 ≤ b.length) := ⟨by omega⟩
     have NM : Aside0 ((a.length - (a.length)) + (b.length - (k + 1)) < k1) := ⟨by have := HK.out; omega⟩
     have NL : Aside0 (out.length + 1 + (a.length - (a.length)) + (b.length - (k + 1)) ≤ a.length + b.length) := ⟨by have := HOL0.out; omega⟩
     have HU2 := am hu
     clear hu
     have hwk : wrap64 ((k : Int) + 1) = (k : Int) + 1 := by have := LB.out; have := HKK.out; unfold wrap64; omega
     clear ci ck
     go_wp2
     go_quiet (fail)
     go_wp2
     go_quiet (fail)
     go_wp2_with (first | (at_builtin; refine Kd.R_append k65 (w0 := w) w.heap.size rfl (.tmp 87) (.tmp 92) 32 65 (.agg #[.string ⟨#[]⟩, .string ⟨#[]⟩]) 32 rfl Tryz.underlying32 wInfo65 rfl (by decide) (by omega) _ out (rd_T65 b (k : Int)) [.string (rd_T65 b (k : Int)).f0, .string (rd_T65 b (k : Int)).f1] (fun _ => True) (fun _ => False) rfl (by first | (go_simp; done) | (go_simp; rfl)) (k65_mkM _ _ _ _) (fun _ hk => hk.elim) (fun _ _ => trivial) (rR HO) bq HSZ.out (by have := HOL.out; omega) ?_; intro v1 w1 ho hb hg hat; have HO1 := am ho; have HB1 := am hb; clear ho hb hg hat))
     go_roundg k1
     case measure => omega
     case rel => exact ⟨a.length, k + 1, _, by first | rfl | (rw [hwi]; rfl), by first | rfl | (rw [hwk]; rfl), NI, NK, NM, HU2, ⟨by rw [List.length_append]; have := NL.out; simp; omega⟩, HO1, HB1⟩
    obtain rfl : k = b.length := by have := HKK.out; omega
    have hu := HU.out
    rw [List.drop_eq_nil_of_le (Nat.le_refl _), List.drop_eq_nil_of_le (Nat.le_refl _), uniG] at hu
    obtain ⟨rfl, rfl⟩ := Prod.mk.inj hu
    have d1 : decide ((a.length : Int) < (a.length : Int)) = false := decide_eq_false (by omega)
    have d2 : decide ((b.length : Int) < (b.length : Int)) = false := decide_eq_false (by omega)
    clear ci ck hu
    go_wp2
    go_ret2
    exact ⟨_, rfl, HO.out, HB.out⟩
  rw [if_pos ha, if_neg hb] at h
  exact absurd h (by simp)
 rw [if_neg ha] at h
 exact absurd h (by simp)
theorem paradigm_Merge.calls (k : Nat) (a0_0 : ByteArray) (A0_1 : Option Addr) (c0_1 : Nat) (l0_1 : List (S55)) (A0_2 : Option Addr) (c0_2 : Nat) (l0_2 : List (List (S79))) (A1 : Option Addr) (c1 : Nat) (l1 : List (S65)) (A2 : Option Addr) (c2 : Nat) (l2 : List (S65)) (r1 : List (S65)) (r2 : Bool) (w : World) (hr0_1 : Kd.C k55 w A0_1 l0_1.length l0_1) (hc0_1 : l0_1.length ≤ c0_1) (hr0_2 : Kd.C (Kd.slice 79 k79) w A0_2 l0_2.length l0_2) (hc0_2 : l0_2.length ≤ c0_2) (hr1 : Kd.C k65 w A1 l1.length l1) (hc1 : l1.length ≤ c1) (hr2 : Kd.C k65 w A2 l2.length l2) (hc2 : l2.length ≤ c2) (h : paradigm_Merge.f k a0_0 l0_1 l0_2 l1 l2 = some (r1, r2)) :
  Calls Tryz.prog 25 #[.agg #[.string a0_0, .slice A0_1 l0_1.length c0_1, .slice A0_2 l0_2.length c0_2], .slice A1 l1.length c1, .slice A2 l2.length c2] w fun e w' => ∃ v0_ : Value, e = .returned (.tuple #[v0_, .bool r2]) ∧ Kd.R k65 65 w' w.heap.size (fun _ => True) v0_ r1 ∧ Below w.heap.size w w' := by
 have hu38 := Tryz.underlying38
 have HR0_1 := am hr0_1
 have HC0_1 := am hc0_1
 clear hr0_1 hc0_1
 have HR0_2 := am hr0_2
 have HC0_2 := am hc0_2
 clear hr0_2 hc0_2
 have HR1 := am hr1
 have HC1 := am hc1
 clear hr1 hc1
 have HR2 := am hr2
 have HC2 := am hc2
 clear hr2 hc2
 have HB := am (Below.refl w.heap.size w)
 have H : ((paradigm_Number.f k a0_0 l0_1 l0_2 l1).bind fun t145 => (if t145 < 0 then (some (([] : List (S65)), false)) else ((feature_Valid.f k l2).bind fun t146 => (if t146 = true then ((feature_Unify.f l1 l2).bind fun bt147 => (some (bt147.1, bt147.2))) else (some (([] : List (S65)), false)))))) = some (r1, r2) := h
 clear h
 replace H := Option.bind_eq_some_iff.mp H
 obtain ⟨t145, A40, H⟩ := H
 (try dsimp only at H)
 have A4 := am A40
 clear A40
 by_cases c5 : t145 < 0
 ·rw [if_pos c5] at H
  have c5b0 : decide (t145 < 0) = true := decide_eq_true c5
  clear c5
  simp only [Option.some.injEq, Prod.mk.injEq] at H
  obtain ⟨rfl, rfl⟩ := H
  go_enter Tryz.func25, Tryz.ntmps25
  go_wp2_with (first | ((with_reducible refine gate_dst (N := 3) rfl ?_); refine bx 3 #[.string a0_0, .slice A0_1 l0_1.length c0_1, .slice A0_2 l0_2.length c0_2] 38 ?_; intro gb144 hg w6 hbox hb; have BK144 := am hbox; have GE144 := sz hg; replace HB := bs hb; clear hb hbox hg; obtain ⟨zaa, zab, zac, zad, zae, zaf⟩ := bc3 BK144) | ((with_reducible refine gate_callee (f := 23) rfl ?_); refine gL (some 10) Tryz.func23 #[.agg #[.string a0_0, .slice A0_1 l0_1.length c0_1, .slice A0_2 l0_2.length c0_2], .slice A1 l1.length c1] ?_; (with_reducible refine (paradigm_Number.calls k a0_0 _ _ l0_1 _ _ l0_2 _ _ l1 t145 _ (cq HR0_1) HC0_1.out (cq HR0_2) HC0_2.out (cq HR1) HC1.out A4.out).mono ?_); rintro e w8 ⟨rfl, hb⟩; refine ⟨_, rfl, ?_⟩; replace BK144 := bk BK144 hb; replace HB := bs hb; (try clear hb)))
  go_ret2
  exact ⟨_, eq', by first | exact Kd.R_nil _ _ _ _ _ | exact Kd.N_nil _ _ _ _ _ | exact Kd.V_nil _ _ _ _ _ | exact Kd.Q_nil _ _ _ _ _ | exact Kd.S_nil _ _ _ _ _, bq⟩
 rw [if_neg c5] at H
 have c5b0 : decide (t145 < 0) = false := decide_eq_false c5
 clear c5
 replace H := Option.bind_eq_some_iff.mp H
 obtain ⟨t146, A90, H⟩ := H
 (try dsimp only at H)
 have A9 := am A90
 clear A90
 by_cases c10 : t146 = true
 ·subst c10
  rw [if_pos rfl] at H
  replace H := Option.bind_eq_some_iff.mp H
  obtain ⟨⟨t147, t148⟩, A110, H⟩ := H
  (try dsimp only at H)
  have A11 := am A110
  clear A110
  simp only [Option.some.injEq, Prod.mk.injEq] at H
  obtain ⟨rfl, rfl⟩ := H
  go_enter Tryz.func25, Tryz.ntmps25
  go_wp2_with (first | ((with_reducible refine gate_dst (N := 3) rfl ?_); refine bx 3 #[.string a0_0, .slice A0_1 l0_1.length c0_1, .slice A0_2 l0_2.length c0_2] 38 ?_; intro gb144 hg w12 hbox hb; have BK144 := am hbox; have GE144 := sz hg; replace HB := bs hb; clear hb hbox hg; obtain ⟨zag, zah, zai, zaj, zak, zal⟩ := bc3 BK144) | ((with_reducible refine gate_callee (f := 23) rfl ?_); refine gL (some 10) Tryz.func23 #[.agg #[.string a0_0, .slice A0_1 l0_1.length c0_1, .slice A0_2 l0_2.length c0_2], .slice A1 l1.length c1] ?_; (with_reducible refine (paradigm_Number.calls k a0_0 _ _ l0_1 _ _ l0_2 _ _ l1 t145 _ (cq HR0_1) HC0_1.out (cq HR0_2) HC0_2.out (cq HR1) HC1.out A4.out).mono ?_); rintro e w14 ⟨rfl, hb⟩; refine ⟨_, rfl, ?_⟩; replace BK144 := bk BK144 hb; replace HB := bs hb; (try clear hb)) | (go_at_call 47; (with_reducible refine (feature_Valid.calls k _ _ l2 true _ (cq HR2) HC2.out A9.out).mono ?_); rintro e w15 ⟨rfl, hb⟩; replace BK144 := bk BK144 hb; replace HB := bs hb; (try clear hb)) | ((with_reducible refine gate_callee (f := 48) rfl ?_); refine gL (some 19) Tryz.func48 #[.slice A1 l1.length c1, .slice A2 l2.length c2] ?_; (with_reducible refine (feature_Unify.calls _ _ l1 _ _ l2 t147 t148 _ (cq HR1) HC1.out (cq HR2) HC2.out A11.out).mono ?_); rintro e w16 ⟨v149, rfl, ho0, hb⟩; refine ⟨_, rfl, ?_⟩; have HO150 := am (Kd.R_lower ho0 (below_size bq)); replace BK144 := bk BK144 hb; replace HB := bs hb; (try clear hb); (try clear ho0)))
  go_ret2
  exact ⟨_, eq', rR HO150, bq⟩
 replace c10 := Bool.eq_false_iff.mpr c10
 subst c10
 rw [if_neg nf] at H
 simp only [Option.some.injEq, Prod.mk.injEq] at H
 obtain ⟨rfl, rfl⟩ := H
 go_enter Tryz.func25, Tryz.ntmps25
 go_wp2_with (first | ((with_reducible refine gate_dst (N := 3) rfl ?_); refine bx 3 #[.string a0_0, .slice A0_1 l0_1.length c0_1, .slice A0_2 l0_2.length c0_2] 38 ?_; intro gb144 hg w17 hbox hb; have BK144 := am hbox; have GE144 := sz hg; replace HB := bs hb; clear hb hbox hg; obtain ⟨zam, zan, zao, zap, zaq, zar⟩ := bc3 BK144) | ((with_reducible refine gate_callee (f := 23) rfl ?_); refine gL (some 10) Tryz.func23 #[.agg #[.string a0_0, .slice A0_1 l0_1.length c0_1, .slice A0_2 l0_2.length c0_2], .slice A1 l1.length c1] ?_; (with_reducible refine (paradigm_Number.calls k a0_0 _ _ l0_1 _ _ l0_2 _ _ l1 t145 _ (cq HR0_1) HC0_1.out (cq HR0_2) HC0_2.out (cq HR1) HC1.out A4.out).mono ?_); rintro e w19 ⟨rfl, hb⟩; refine ⟨_, rfl, ?_⟩; replace BK144 := bk BK144 hb; replace HB := bs hb; (try clear hb)) | (go_at_call 47; (with_reducible refine (feature_Valid.calls k _ _ l2 false _ (cq HR2) HC2.out A9.out).mono ?_); rintro e w20 ⟨rfl, hb⟩; replace BK144 := bk BK144 hb; replace HB := bs hb; (try clear hb)))
 go_ret2
 exact ⟨_, eq', by first | exact Kd.R_nil _ _ _ _ _ | exact Kd.N_nil _ _ _ _ _ | exact Kd.V_nil _ _ _ _ _ | exact Kd.Q_nil _ _ _ _ _ | exact Kd.S_nil _ _ _ _ _, bq⟩
theorem utf8_RuneCountInString.calls (s : ByteArray) (r : Int) (w : World) (h : utf8_RuneCountInString.f s = some r) :
  Calls Tryz.prog 27 #[.string s] w fun e w' => e = .returned (.int .i64 r) ∧ Below w.heap.size w w' := by
 unfold utf8_RuneCountInString.f at h
 by_cases hs : s.size ≤ 1000000000000
 ·rw [if_pos hs] at h
  obtain rfl := Option.some.inj h
  have HS := am hs
  clear h hs
  go_enter Tryz.func27, Tryz.ntmps27
  go_wp2
  go_loopg [2] (s.size + 1) (fun kq v2 w' => ∃ (pos m : Nat) (xs : List Int), v2 = .int .i64 (m : Int) ∧ Aside0 (Left s kq pos xs) ∧ Aside0 (m + xs.length = (rns s).length) ∧ Aside0 (m ≤ pos) ∧ Aside0 (w'.heap[w.heap.size]? = some (.stringIter s pos)) ∧ Aside0 (Below w.heap.size w w'))
  case atStart => exact ⟨0, 0, rns s, (by first | rfl | (simp; done)), ⟨left_start s⟩, ⟨Nat.zero_add _⟩, ⟨Nat.le_refl _⟩, ⟨blk_new w (.stringIter s 0)⟩, ⟨below_alloc (Below.refl _ _) (.stringIter s 0)⟩⟩
  case round =>
   obtain ⟨pos, m, xs, rfl, HL, HA, HM, HI, HB⟩ := hrel
   by_cases c1 : pos < s.size
   ·obtain ⟨k1, ys, rfl, rfl, HL1⟩ := left_next HL.out c1
    have hnx : ∀ ty, (Instr.next (.pointer (some ⟨w.heap.size, 0, none⟩)) true ty).run Tryz.prog wr = _ := fun ty => Lib.run_next_any_at wr w.heap.size s pos ty HI.out c1
    have HI2 := am (Lib.iterAt_heap wr w.heap.size s pos (pos + (Utf8.decode s pos).2) HI.out)
    have HB2 := am (Lib.below_iterAt HB.out (Nat.le_refl _) s (pos + (Utf8.decode s pos).2))
    have HN := am (show m + 1 ≤ pos + (Utf8.decode s pos).2 by have := HM.out; have := Lib.decode_width_pos s pos c1; omega)
    have HA' := am (show m + 1 + ys.length = (rns s).length by have := HA.out; rw [List.length_cons] at this; omega)
    have hwm : wrap64 ((m : Int) + 1) = ((m + 1 : Nat) : Int) := by have h1 := HS.out; have h2 := HM.out; unfold wrap64; omega
    have HLL := am HL1
    clear HL1 HI HB HL HA HM
    generalize hd : Utf8.decode s pos = d at *
    obtain ⟨d1, d2⟩ := d
    simp only at HLL hnx HI2 HB2 HN
    clear hd c1
    go_wp2
    go_roundg k1
    case measure => omega
    case rel => exact ⟨_, m + 1, ys, by rw [hwm], HLL, HA', HN, HI2, HB2⟩
   obtain rfl := left_end HL.out c1
   have hnx : ∀ ty, (Instr.next (.pointer (some ⟨w.heap.size, 0, none⟩)) true ty).run Tryz.prog wr = _ := fun ty => Lib.run_next_end_at wr w.heap.size s pos ty HI.out c1
   have hr : m = (rns s).length := by have := HA.out; simpa using this
   clear c1
   go_wp2
   go_ret
   exact ⟨by rw [← hr]; rfl, HB.out⟩
 rw [if_neg hs] at h
 exact absurd h (by simp)
theorem paradigm_Underlying.calls (k : Nat) (a0_0 : ByteArray) (A0_1 : Option Addr) (c0_1 : Nat) (l0_1 : List (S55)) (A0_2 : Option Addr) (c0_2 : Nat) (l0_2 : List (List (S79))) (a1 : ByteArray) (A2 : Option Addr) (c2 : Nat) (l2 : List (S65)) (A3 : Option Addr) (c3 : Nat) (l3 : List (S65)) (r1 : ByteArray) (r2 : Int) (w : World) (hr0_1 : Kd.C k55 w A0_1 l0_1.length l0_1) (hc0_1 : l0_1.length ≤ c0_1) (hr0_2 : Kd.C (Kd.slice 79 k79) w A0_2 l0_2.length l0_2) (hc0_2 : l0_2.length ≤ c0_2) (hr2 : Kd.C k65 w A2 l2.length l2) (hc2 : l2.length ≤ c2) (hr3 : Kd.C k65 w A3 l3.length l3) (hc3 : l3.length ≤ c3) (h : paradigm_Underlying.f k a0_0 l0_1 l0_2 a1 l2 l3 = some (r1, r2)) :
  Calls Tryz.prog 9 #[.agg #[.string a0_0, .slice A0_1 l0_1.length c0_1, .slice A0_2 l0_2.length c0_2], .string a1, .slice A2 l2.length c2, .slice A3 l3.length c3] w fun e w' => e = .returned (.tuple #[.string r1, .int .i64 r2]) ∧ Below w.heap.size w w' := by
 have hu38 := Tryz.underlying38
 have hu79 := Tryz.underlying79
 have HR0_1 := am hr0_1
 have HC0_1 := am hc0_1
 clear hr0_1 hc0_1
 have HR0_2 := am hr0_2
 have HC0_2 := am hc0_2
 clear hr0_2 hc0_2
 have HR2 := am hr2
 have HC2 := am hc2
 clear hr2 hc2
 have HR3 := am hr3
 have HC3 := am hc3
 clear hr3 hc3
 have HB := am (Below.refl w.heap.size w)
 have H : ((paradigm_Merge.f k a0_0 l0_1 l0_2 l3 l2).bind fun bt152 => (if bt152.2 = true then (paradigm_Underlying.l0 k bt152.1 a1 (l0_2.length : Int) 0 a0_0 l0_1 l0_2) else (some ((⟨#[]⟩ : ByteArray), 1)))) = some (r1, r2) := h
 clear h
 replace H := Option.bind_eq_some_iff.mp H
 obtain ⟨⟨t152, t155⟩, A50, H⟩ := H
 (try dsimp only at H)
 have A5 := am A50
 clear A50
 by_cases c6 : t155 = true
 ·subst c6
  rw [if_pos rfl] at H
  have H' := am H
  clear H
  go_enter Tryz.func9, Tryz.ntmps9
  go_wp2_with (first | ((with_reducible refine gate_dst (N := 4) rfl ?_); refine bx 4 #[.string a0_0, .slice A0_1 l0_1.length c0_1, .slice A0_2 l0_2.length c0_2] 38 ?_; intro gb151 hg w7 hbox hb; have BK151 := am hbox; have GE151 := sz hg; replace HB := bs hb; clear hb hbox hg; obtain ⟨zaa, zab, zac, zad, zae, zaf⟩ := bc3 BK151) | ((with_reducible refine gate_callee (f := 25) rfl ?_); refine gL (some 20) Tryz.func25 #[.agg #[.string a0_0, .slice A0_1 l0_1.length c0_1, .slice A0_2 l0_2.length c0_2], .slice A3 l3.length c3, .slice A2 l2.length c2] ?_; (with_reducible refine (paradigm_Merge.calls k a0_0 _ _ l0_1 _ _ l0_2 _ _ l3 _ _ l2 t152 true _ (cq HR0_1) HC0_1.out (cq HR0_2) HC0_2.out (cq HR3) HC3.out (cq HR2) HC2.out A5.out).mono ?_); rintro e w9 ⟨v153, rfl, ho0, hb⟩; refine ⟨_, rfl, ?_⟩; have HO154 := am (Kd.R_lower ho0 (below_size bq)); replace BK151 := bk BK151 hb; replace HB := bs hb; (try clear hb); (try clear ho0); obtain ⟨zag, zah, zai, zaj, zak, zal⟩ := bc3 BK151))
  go_loopg [12, 29] k (fun kq v12 v29 w' => ∃ (x12_1 : ByteArray) (x29_1 : Int), v12 = .string x12_1 ∧ v29 = .int .i64 x29_1 ∧ Aside0 (paradigm_Underlying.l0 kq t152 x12_1 (l0_2.length : Int) x29_1 a0_0 l0_1 l0_2 = some (r1, r2)) ∧ Aside0 (kq ≤ k) ∧ Aside0 (Kd.R k65 65 w' w.heap.size (fun _ => True) v153 t152) ∧ Aside0 (w'.heap[gb151]? = some (.cells #[.string a0_0, (.slice A0_1 l0_1.length c0_1), (.slice A0_2 l0_2.length c0_2)] 38 (0, 0))) ∧ Aside0 (Below w.heap.size w w'))
  case atStart => exact ⟨(a1), (0), rq, rq, H', ⟨Nat.le_refl _⟩, ⟨rR HO154⟩, ⟨bd BK151⟩, ⟨bq⟩⟩
  case round =>
   clear H'
   clear zag zah zai zaa zab zac zaj zak zal zad zae zaf
   obtain ⟨x12_1, x29_1, rfl, rfl, HA, HK1, HO_10, BK151, HB⟩ := hrel
   cases gk with
   | zero => exact absurd HA.out (by simp [paradigm_Underlying.l0])
   | succ k1 =>
    have H := HA.out
    clear HA
    simp only [paradigm_Underlying.l0] at H
    by_cases c11 : x29_1 < (l0_2.length : Int)
    ·rw [if_pos c11] at H
     have c11b0 : decide (x29_1 < (l0_2.length : Int)) = true := decide_eq_true c11
     clear c11
     replace H := Option.bind_eq_some_iff.mp H
     obtain ⟨t156, A120, H⟩ := H
     (try dsimp only at H)
     have A12 := am A120
     clear A120
     by_cases c13 : t156 ≥ 0
     ·rw [if_pos c13] at H
      have c13b0 : decide (0 ≤ t156) = true := decide_eq_true c13
      clear c13
      by_cases c14 : 0 ≤ x29_1
      ·rw [if_pos c14] at H
       have c14b0 : decide (0 ≤ x29_1) = true := decide_eq_true c14
       clear c14
       by_cases c15 : x29_1 < (l0_2.length : Int)
       ·rw [if_pos c15] at H
        have c15b0 : decide (x29_1 < (l0_2.length : Int)) = true := decide_eq_true c15
        clear c15
        by_cases c16 : 0 ≤ t156
        ·rw [if_pos c16] at H
         have c16b0 : decide (0 ≤ t156) = true := decide_eq_true c16
         clear c16
         by_cases c17 : t156 < ((rd_L11 l0_2 x29_1).length : Int)
         ·rw [if_pos c17] at H
          have c17b0 : decide (t156 < ((rd_L11 l0_2 x29_1).length : Int)) = true := decide_eq_true c17
          clear c17
          by_cases c18 : ((rd_T79 (rd_L11 l0_2 x29_1) t156).f1).size + x12_1.size ≤ 9223372036854775807
          ·rw [if_pos c18] at H
           have c18b0 := eq_true c18
           have c18b1 : decide (((rd_T79 (rd_L11 l0_2 x29_1) t156).f1).size + x12_1.size ≤ 9223372036854775807) = true := decide_eq_true c18
           try have c18b2 : (9223372036854775807 < ((rd_T79 (rd_L11 l0_2 x29_1) t156).f1).size + x12_1.size) = False := eq_false (Nat.not_lt.2 c18)
           by_cases c19 : (((rd_T79 (rd_L11 l0_2 x29_1) t156).f1) ++ x12_1).size + ((rd_T79 (rd_L11 l0_2 x29_1) t156).f2).size ≤ 9223372036854775807
           ·rw [if_pos c19] at H
            have c19b0 := eq_true c19
            have c19b1 : decide ((((rd_T79 (rd_L11 l0_2 x29_1) t156).f1) ++ x12_1).size + ((rd_T79 (rd_L11 l0_2 x29_1) t156).f2).size ≤ 9223372036854775807) = true := decide_eq_true c19
            try have c19b2 : (9223372036854775807 < (((rd_T79 (rd_L11 l0_2 x29_1) t156).f1) ++ x12_1).size + ((rd_T79 (rd_L11 l0_2 x29_1) t156).f2).size) = False := eq_false (Nat.not_lt.2 c19)
            have H' := am H
            clear H
            obtain ⟨zam, zan, zao, zap, zaq, zar⟩ := bc3 BK151
            obtain ⟨Ao21, co21, eo21⟩ := Kd.R_slice HO_10.out
            subst eo21
            go_wp2_with (first | ((with_reducible refine gate_callee (f := 26) rfl ?_); refine gL (some 35) Tryz.func26 #[.agg #[.string a0_0, .slice A0_1 l0_1.length c0_1, .slice A0_2 l0_2.length c0_2], .int .i64 x29_1, .slice Ao21 t152.length co21] ?_; (with_reducible refine (paradigm_Chosen.calls k1 a0_0 _ _ l0_1 _ _ l0_2 x29_1 _ _ t152 t156 _ (cq HR0_1) HC0_1.out (cq HR0_2) HC0_2.out ?side5 ?side6 A12.out).mono ?_); (case side5 => repeat (first | exact (Kd.R_reads' HO_10.out).2.2 | (with_reducible refine Kd.C_alloc ?_ _) | (with_reducible refine Kd.C_drewN ?_ _) | (with_reducible refine Kd.C_drew ?_))); (case side6 => exact (Kd.R_reads' HO_10.out).2.1); rintro e w22 ⟨rfl, hb⟩; refine ⟨_, rfl, ?_⟩; replace HO_10 := am (Kd.R_below (rR HO_10) hb); replace BK151 := bk BK151 hb; replace HB := bs hb; (try clear hb); obtain ⟨zas, zat, zau, zav, zaw, zax⟩ := bc3 BK151; have p157 : 0 ≤ (x29_1 : Int) := oq; have q157 : x29_1 < (l0_2.length : Int) := oq; obtain ⟨ad157, A157_0, c157_0, e157, hx157_0, hl157_0, hi157_0⟩ := at_L11 HR0_2.out x29_1 p157 q157; cases e157; replace hx157_0 := cw hx157_0; have HR157_0 := am hi157_0; have HC157_0 := am hl157_0; clear hi157_0 hl157_0; replace p157 := eq_true p157; replace q157 := eq_true q157; have p158 : 0 ≤ (t156 : Int) := oq; have q158 : t156 < ((rd_L11 l0_2 x29_1).length : Int) := oq; obtain ⟨ad158, A158_0, c158_0, e158, hx158_0, hx158_1, hx158_2, hl158_0, hi158_0⟩ := at_T79 HR157_0.out t156 p158 q158; cases e158; replace hx158_0 := cw hx158_0; replace hx158_1 := cw hx158_1; replace hx158_2 := cw hx158_2; have HR158_0 := am hi158_0; have HC158_0 := am hl158_0; clear hi158_0 hl158_0; replace p158 := eq_true p158; replace q158 := eq_true q158) | ((with_reducible refine gate_dst (N := 15) rfl ?_); refine bx 15 #[.slice none 0 0, .string (⟨#[]⟩ : ByteArray), .string (⟨#[]⟩ : ByteArray)] 79 ?_; intro gb159 hg w24 hbox hb; have BK159 := am hbox; have GE159 := sz hg; have NB151_159 := nl hg BK151; have NB159_151 := ng hg BK151; replace HO_10 := am (Kd.R_below (rR HO_10) hb); replace BK151 := bk BK151 hb; replace HB := bs hb; clear hb hbox hg; have hnb25 := NB159_151.out; have hnc25 := NB151_159.out; obtain ⟨zay, zaz, zba, zbb, zbc, zbd⟩ := bc3 BK159))
            go_roundg k1
            case measure => have := HK1.out; omega
            case rel => exact ⟨((((rd_T79 (rd_L11 l0_2 x29_1) t156).f1) ++ x12_1) ++ ((rd_T79 (rd_L11 l0_2 x29_1) t156).f2)), (wrap64 (x29_1 + 1)), rq, rq, H', ⟨by have := HK1.out; omega⟩, ⟨by (with_reducible repeat (first | apply Kd.R_alloc | apply Kd.R_drewN | apply Kd.R_drew)); exact Kd.R_mono (Kd.R_far (p := ⟨gb159, 2, none⟩) (Kd.R_far (p := ⟨gb159, 1, none⟩) (Kd.R_far (p := ⟨gb159, 0, none⟩) (Kd.R_types HO_10.out BK159.out (by decide)) (fun _ hk => hk.2) (.slice A158_0 ((rd_T79 (rd_L11 l0_2 x29_1) t156).f0).length c158_0)) (fun _ hk => hk.2) (.string ((rd_T79 (rd_L11 l0_2 x29_1) t156).f1))) (fun _ hk => hk.2) (.string ((rd_T79 (rd_L11 l0_2 x29_1) t156).f2))) (fun _ hk => trivial)⟩, ⟨bf BK151⟩, ⟨bq⟩⟩
           rw [if_neg c19] at H
           exact absurd H (by simp)
          rw [if_neg c18] at H
          exact absurd H (by simp)
         rw [if_neg c17] at H
         exact absurd H (by simp)
        rw [if_neg c16] at H
        exact absurd H (by simp)
       rw [if_neg c15] at H
       exact absurd H (by simp)
      rw [if_neg c14] at H
      exact absurd H (by simp)
     rw [if_neg c13] at H
     have c13b0 : decide (0 ≤ t156) = false := decide_eq_false c13
     clear c13
     have H' := am H
     clear H
     obtain ⟨zbe, zbf, zbg, zbh, zbi, zbj⟩ := bc3 BK151
     obtain ⟨Ao28, co28, eo28⟩ := Kd.R_slice HO_10.out
     subst eo28
     go_wp2_with (first | ((with_reducible refine gate_callee (f := 26) rfl ?_); refine gL (some 35) Tryz.func26 #[.agg #[.string a0_0, .slice A0_1 l0_1.length c0_1, .slice A0_2 l0_2.length c0_2], .int .i64 x29_1, .slice Ao28 t152.length co28] ?_; (with_reducible refine (paradigm_Chosen.calls k1 a0_0 _ _ l0_1 _ _ l0_2 x29_1 _ _ t152 t156 _ (cq HR0_1) HC0_1.out (cq HR0_2) HC0_2.out ?side5 ?side6 A12.out).mono ?_); (case side5 => repeat (first | exact (Kd.R_reads' HO_10.out).2.2 | (with_reducible refine Kd.C_alloc ?_ _) | (with_reducible refine Kd.C_drewN ?_ _) | (with_reducible refine Kd.C_drew ?_))); (case side6 => exact (Kd.R_reads' HO_10.out).2.1); rintro e w29 ⟨rfl, hb⟩; refine ⟨_, rfl, ?_⟩; replace HO_10 := am (Kd.R_below (rR HO_10) hb); replace BK151 := bk BK151 hb; replace HB := bs hb; (try clear hb)))
     go_roundg k1
     case measure => have := HK1.out; omega
     case rel => exact ⟨(x12_1), (wrap64 (x29_1 + 1)), rq, rq, H', ⟨by have := HK1.out; omega⟩, ⟨rR HO_10⟩, ⟨bd BK151⟩, ⟨bq⟩⟩
    rw [if_neg c11] at H
    have c11b0 : decide (x29_1 < (l0_2.length : Int)) = false := decide_eq_false c11
    clear c11
    replace H := Option.bind_eq_some_iff.mp H
    obtain ⟨t160, A300, H⟩ := H
    (try dsimp only at H)
    have A30 := am A300
    clear A300
    by_cases c31 : t160 > 40
    ·rw [if_pos c31] at H
     have c31b0 : decide (40 < t160) = true := decide_eq_true c31
     clear c31
     simp only [Option.some.injEq, Prod.mk.injEq] at H
     obtain ⟨rfl, rfl⟩ := H
     go_wp2_with (first | ((with_reducible refine gate_callee (f := 27) rfl ?_); refine gL (some 55) Tryz.func27 #[.string x12_1] ?_; (with_reducible refine (utf8_RuneCountInString.calls x12_1 t160 _ A30.out).mono ?_); rintro e w32 ⟨rfl, hb⟩; refine ⟨_, rfl, ?_⟩; replace HO_10 := am (Kd.R_below (rR HO_10) hb); replace BK151 := bk BK151 hb; replace HB := bs hb; (try clear hb)))
     go_ret2
     exact ⟨eq', bq⟩
    rw [if_neg c31] at H
    have c31b0 : decide (40 < t160) = false := decide_eq_false c31
    clear c31
    simp only [Option.some.injEq, Prod.mk.injEq] at H
    obtain ⟨rfl, rfl⟩ := H
    go_wp2_with (first | ((with_reducible refine gate_callee (f := 27) rfl ?_); refine gL (some 55) Tryz.func27 #[.string x12_1] ?_; (with_reducible refine (utf8_RuneCountInString.calls x12_1 t160 _ A30.out).mono ?_); rintro e w33 ⟨rfl, hb⟩; refine ⟨_, rfl, ?_⟩; replace HO_10 := am (Kd.R_below (rR HO_10) hb); replace BK151 := bk BK151 hb; replace HB := bs hb; (try clear hb)))
    go_ret2
    exact ⟨eq', bq⟩
 replace c6 := Bool.eq_false_iff.mpr c6
 subst c6
 rw [if_neg nf] at H
 simp only [Option.some.injEq, Prod.mk.injEq] at H
 obtain ⟨rfl, rfl⟩ := H
 go_enter Tryz.func9, Tryz.ntmps9
 go_wp2_with (first | ((with_reducible refine gate_dst (N := 4) rfl ?_); refine bx 4 #[.string a0_0, .slice A0_1 l0_1.length c0_1, .slice A0_2 l0_2.length c0_2] 38 ?_; intro gb151 hg w34 hbox hb; have BK151 := am hbox; have GE151 := sz hg; replace HB := bs hb; clear hb hbox hg; obtain ⟨zbk, zbl, zbm, zbn, zbo, zbp⟩ := bc3 BK151) | ((with_reducible refine gate_callee (f := 25) rfl ?_); refine gL (some 20) Tryz.func25 #[.agg #[.string a0_0, .slice A0_1 l0_1.length c0_1, .slice A0_2 l0_2.length c0_2], .slice A3 l3.length c3, .slice A2 l2.length c2] ?_; (with_reducible refine (paradigm_Merge.calls k a0_0 _ _ l0_1 _ _ l0_2 _ _ l3 _ _ l2 t152 false _ (cq HR0_1) HC0_1.out (cq HR0_2) HC0_2.out (cq HR3) HC3.out (cq HR2) HC2.out A5.out).mono ?_); rintro e w36 ⟨v153, rfl, ho0, hb⟩; refine ⟨_, rfl, ?_⟩; have HO154 := am (Kd.R_lower ho0 (below_size bq)); replace BK151 := bk BK151 hb; replace HB := bs hb; (try clear hb); (try clear ho0)))
 go_ret2
 exact ⟨eq', bq⟩
theorem utf8_ValidRune.calls (k : Nat) (a0 : Int) (r : Bool) (w : World) (h : utf8_ValidRune.f k a0 = some r) :
  Calls Tryz.prog 58 #[.int .i32 a0] w fun e w' => e = .returned (.bool r) ∧ Drawn0 w w' := by
 have H : (if 0 ≤ a0 then (utf8_ValidRune.j0 k a0 (decide (a0 < 55296))) else (utf8_ValidRune.j0 k a0 false)) = some r := h
 clear h
 have HC2 := am H
 clear H
 go_enter Tryz.func58, Tryz.ntmps58
 go_upto_region 1 with (fail)
 go_cut [3] (fun v3 wc => ∃ (kq : Nat) (x3_1 : Bool), v3 = .bool x3_1 ∧ Aside0 (utf8_ValidRune.j0 kq a0 x3_1 = some r) ∧ Aside0 (kq ≤ k) ∧ Drawn0 w wc)
 case first =>
  have H := HC2.out
  clear HC2
  by_cases c3 : 0 ≤ a0
  ·rw [if_pos c3] at H
   have c3b0 : decide (0 ≤ a0) = true := decide_eq_true c3
   clear c3
   (first | rw [c3b0] | (simp only [i64_w, i32_w]; rw [c3b0]) | skip)
   have H' := am H
   clear H
   go_wp2
   go_meet
   case rel => exact ⟨_, (decide (a0 < 55296)), rq, H', ⟨by first | omega | exact Nat.le_refl _⟩, by repeat (first | exact Drawn0.refl _ | apply Drawn0.step)⟩
  rw [if_neg c3] at H
  have c3b0 : decide (0 ≤ a0) = false := decide_eq_false c3
  clear c3
  (first | rw [c3b0] | (simp only [i64_w, i32_w]; rw [c3b0]) | skip)
  have H' := am H
  clear H
  go_wp2
  go_meet
  case rel => exact ⟨_, (false), rq, H', ⟨by first | omega | exact Nat.le_refl _⟩, by repeat (first | exact Drawn0.refl _ | apply Drawn0.step)⟩
 case rest =>
  clear HC2
  obtain ⟨kq, x3_1, rfl, HA, HJ1, ⟨mc1, rfl⟩⟩ := hcut
  cases kq with
  | zero => exact absurd HA.out (by simp [utf8_ValidRune.j0])
  | succ kj1 =>
   have H := HA.out
   clear HA
   simp only [utf8_ValidRune.j0] at H
   by_cases c4 : x3_1 = true
   ·subst c4
    rw [if_pos rfl] at H
    obtain rfl := Option.some.inj H
    go_wp2
    go_ret
    exact ⟨by first | rfl | (simp; done) | (simp [*]; done), by repeat (first | exact Drawn0.refl _ | apply Drawn0.step)⟩
   replace c4 := Bool.eq_false_iff.mpr c4
   subst c4
   rw [if_neg nf] at H
   by_cases c5 : 57343 < a0
   ·rw [if_pos c5] at H
    have c5b0 : decide (57343 < a0) = true := decide_eq_true c5
    clear c5
    by_cases c6 : a0 ≤ 1114111
    ·rw [if_pos c6] at H
     have c6b0 : decide (a0 ≤ 1114111) = true := decide_eq_true c6
     clear c6
     obtain rfl := Option.some.inj H
     go_wp2
     go_ret
     exact ⟨by first | rfl | (simp; done) | (simp [*]; done), by repeat (first | exact Drawn0.refl _ | apply Drawn0.step)⟩
    rw [if_neg c6] at H
    have c6b0 : decide (a0 ≤ 1114111) = false := decide_eq_false c6
    clear c6
    obtain rfl := Option.some.inj H
    go_wp2
    go_ret
    exact ⟨by first | rfl | (simp; done) | (simp [*]; done), by repeat (first | exact Drawn0.refl _ | apply Drawn0.step)⟩
   rw [if_neg c5] at H
   have c5b0 : decide (57343 < a0) = false := decide_eq_false c5
   clear c5
   obtain rfl := Option.some.inj H
   go_wp2
   go_ret
   exact ⟨by first | rfl | (simp; done) | (simp [*]; done), by repeat (first | exact Drawn0.refl _ | apply Drawn0.step)⟩
theorem rewrite_letters_has.calls (k : Nat) (A0 : Option Addr) (c0 : Nat) (l0 : List (S48)) (a1 : Int) (r : Bool) (w : World) (hr0 : Kd.C k48 w A0 l0.length l0) (hc0 : l0.length ≤ c0) (h : rewrite_letters_has.f k l0 a1 = some r) :
  Calls Tryz.prog 60 #[.slice A0 l0.length c0, .int .i32 a1] w fun e w' => e = .returned (.bool r) ∧ Below w.heap.size w w' := by
 have hu48 := Tryz.underlying48
 have HR0 := am hr0
 have HC0 := am hc0
 clear hr0 hc0
 have HB := am (Below.refl w.heap.size w)
 have H : (rewrite_letters_has.l0 k a1 l0 (l0.length : Int) 0) = some r := h
 clear h
 have H' := am H
 clear H
 go_enter Tryz.func60, Tryz.ntmps60
 go_wp2
 go_loopg [9] k (fun kq v9 w' => ∃ (x9_1 : Int), v9 = .int .i64 x9_1 ∧ Aside0 (rewrite_letters_has.l0 kq a1 l0 (l0.length : Int) x9_1 = some r) ∧ Aside0 (kq ≤ k) ∧ Aside0 (Below w.heap.size w w'))
 case atStart => exact ⟨(0), rq, H', ⟨Nat.le_refl _⟩, ⟨bq⟩⟩
 case round =>
  clear H'
  obtain ⟨x9_1, rfl, HA, HK1, HB⟩ := hrel
  cases gk with
  | zero => exact absurd HA.out (by simp [rewrite_letters_has.l0])
  | succ k1 =>
   have H := HA.out
   clear HA
   simp only [rewrite_letters_has.l0] at H
   by_cases c3 : x9_1 < (l0.length : Int)
   ·rw [if_pos c3] at H
    have c3b0 : decide (x9_1 < (l0.length : Int)) = true := decide_eq_true c3
    clear c3
    by_cases c4 : 0 ≤ x9_1
    ·rw [if_pos c4] at H
     have c4b0 : decide (0 ≤ x9_1) = true := decide_eq_true c4
     clear c4
     by_cases c5 : x9_1 < (l0.length : Int)
     ·rw [if_pos c5] at H
      have c5b0 : decide (x9_1 < (l0.length : Int)) = true := decide_eq_true c5
      clear c5
      by_cases c6 : ((rd_T48 l0 x9_1).f0) = a1
      ·rw [if_pos c6] at H
       have c6b0 : (((rd_T48 l0 x9_1).f0) == a1) = true := beq_iff_eq.mpr c6
       have c6b1 : (((rd_T48 l0 x9_1).f0) != a1) = false := bne_eq_false_iff_eq.mpr c6
       clear c6
       obtain rfl := Option.some.inj H
       have p161 : 0 ≤ (x9_1 : Int) := oq
       have q161 : x9_1 < (l0.length : Int) := oq
       obtain ⟨ad161, e161, hx161_0, hx161_1⟩ := at_T48 HR0.out x9_1 p161 q161
       cases e161
       replace hx161_0 := cw hx161_0
       replace hx161_1 := cw hx161_1
       replace p161 := eq_true p161
       replace q161 := eq_true q161
       go_wp2_with (first | ((with_reducible refine gate_dst (N := 6) rfl ?_); refine bx 6 #[.int .i32 0, .int .u32 0] 48 ?_; intro gb162 hg w7 hbox hb; have BK162 := am hbox; have GE162 := sz hg; replace HB := bs hb; clear hb hbox hg; obtain ⟨zaa, zab, zac, zad⟩ := bc2 BK162))
       go_ret
       exact ⟨eq', bq⟩
      rw [if_neg c6] at H
      have c6b0 : (((rd_T48 l0 x9_1).f0) == a1) = false := beq_eq_false_iff_ne.mpr c6
      have c6b1 : (((rd_T48 l0 x9_1).f0) != a1) = true := bne_iff_ne.mpr c6
      have H' := am H
      clear H
      have p161 : 0 ≤ (x9_1 : Int) := oq
      have q161 : x9_1 < (l0.length : Int) := oq
      obtain ⟨ad161, e161, hx161_0, hx161_1⟩ := at_T48 HR0.out x9_1 p161 q161
      cases e161
      replace hx161_0 := cw hx161_0
      replace hx161_1 := cw hx161_1
      replace p161 := eq_true p161
      replace q161 := eq_true q161
      go_wp2_with (first | ((with_reducible refine gate_dst (N := 6) rfl ?_); refine bx 6 #[.int .i32 0, .int .u32 0] 48 ?_; intro gb162 hg w9 hbox hb; have BK162 := am hbox; have GE162 := sz hg; replace HB := bs hb; clear hb hbox hg; obtain ⟨zae, zaf, zag, zah⟩ := bc2 BK162))
      go_roundg k1
      case measure => have := HK1.out; omega
      case rel => exact ⟨(wrap64 (x9_1 + 1)), rq, H', ⟨by have := HK1.out; omega⟩, ⟨bq⟩⟩
     rw [if_neg c5] at H
     exact absurd H (by simp)
    rw [if_neg c4] at H
    exact absurd H (by simp)
   rw [if_neg c3] at H
   have c3b0 : decide (x9_1 < (l0.length : Int)) = false := decide_eq_false c3
   clear c3
   obtain rfl := Option.some.inj H
   go_wp2
   go_ret
   exact ⟨eq', bq⟩
def rewrite_letters_admissible.T6 : Bool × List (List Nat × List Nat) := (true, [([], []), ([0], [0]), ([1], [1]), ([2], [2]), ([3], [3]), ([4, 3], [3, 4]), ([5, 3, 3], [3, 5]), ([6, 3], [3, 6]), ([3, 7], [3, 7]), ([8, 6], [8]), ([9], [9]), ([9], [9]), ([10, 11, 9], [9, 10, 11]), ([9], [9]), ([13, 9], [9, 13]), ([12, 14, 9, 9], [9, 12, 14]), ([9, 15], [9, 15])])
def rewrite_letters_admissible.B6 : List Nat := [0, 1, 3, 7, 15, 31, 63, 127, 255, 511, 1023, 1023, 4095, 1023, 9215, 32767, 65535]
theorem rewrite_letters_admissible.tab6 : rtab .any (opsOf Tryz.f52 6) = rewrite_letters_admissible.T6 := by kernel_rfl
theorem rewrite_letters_admissible.bits6 : waitsOk rewrite_letters_admissible.T6.2 rewrite_letters_admissible.B6 = true := by kernel_rfl
theorem rewrite_letters_admissible.calls (k : Nat) (A0 : Option Addr) (c0 : Nat) (l0 : List (S48)) (r : Bool) (w : World) (hr0 : Kd.C k48 w A0 l0.length l0) (hc0 : l0.length ≤ c0) (h : rewrite_letters_admissible.f k l0 = some r) :
  Calls Tryz.prog 52 #[.slice A0 l0.length c0] w fun e w' => e = .returned (.bool r) ∧ Below w.heap.size w w' := by
 have hu48 := Tryz.underlying48
 have HR0 := am hr0
 have HC0 := am hc0
 clear hr0 hc0
 have HB := am (Below.refl w.heap.size w)
 have H : (if (l0.length : Int) < 1 then (rewrite_letters_admissible.j0 k l0 true) else (rewrite_letters_admissible.j0 k l0 (decide ((l0.length : Int) > 65)))) = some r := h
 clear h
 have HC2 := am H
 clear H
 go_enter Tryz.func52, Tryz.ntmps52
 go_upto_region 1 with (fail)
 go_cut [12] (fun v12 wc => ∃ (kq : Nat) (x12_1 : Bool), v12 = .bool x12_1 ∧ Aside0 (rewrite_letters_admissible.j0 kq l0 x12_1 = some r) ∧ Aside0 (kq ≤ k) ∧ Aside0 (Below w.heap.size w wc))
 case first =>
  have H := HC2.out
  clear HC2
  by_cases c3 : (l0.length : Int) < 1
  ·rw [if_pos c3] at H
   have c3b0 : decide ((l0.length : Int) < 1) = true := decide_eq_true c3
   have c3b1 : decide (l0.length < 1) = true := decide_eq_true (by omega)
   clear c3
   (first | rw [c3b0] | (simp only [i64_w, i32_w]; rw [c3b0]) | skip)
   have H' := am H
   clear H
   go_wp2
   go_meet
   case rel => exact ⟨_, (true), rq, H', ⟨by first | omega | exact Nat.le_refl _⟩, ⟨bq⟩⟩
  rw [if_neg c3] at H
  have c3b0 : decide ((l0.length : Int) < 1) = false := decide_eq_false c3
  have c3b1 : decide (l0.length < 1) = false := decide_eq_false (by omega)
  clear c3
  (first | rw [c3b0] | (simp only [i64_w, i32_w]; rw [c3b0]) | skip)
  have H' := am H
  clear H
  go_wp2
  go_meet
  case rel => exact ⟨_, (decide ((l0.length : Int) > 65)), rq, H', ⟨by first | omega | exact Nat.le_refl _⟩, ⟨bq⟩⟩
 case rest =>
  clear HC2
  obtain ⟨kq, x12_1, rfl, HA, HJ1, HB⟩ := hcut
  cases kq with
  | zero => exact absurd HA.out (by simp [rewrite_letters_admissible.j0])
  | succ kj1 =>
   have H := HA.out
   clear HA
   simp only [rewrite_letters_admissible.j0] at H
   by_cases c4 : x12_1 = true
   ·subst c4
    rw [if_pos rfl] at H
    obtain rfl := Option.some.inj H
    go_wp2
    go_ret
    exact ⟨eq', bq⟩
   replace c4 := Bool.eq_false_iff.mpr c4
   subst c4
   rw [if_neg nf] at H
   have H' := am H
   clear H
   go_wp2
   go_loopg [15] kj1 (fun kq v15 w' => ∃ (x15_2 : Int), v15 = .int .i64 x15_2 ∧ Aside0 (rewrite_letters_admissible.l0 kq l0 l0 (l0.length : Int) x15_2 = some r) ∧ Aside0 (kq ≤ kj1) ∧ Aside0 (Below w.heap.size w w'))
   case atStart => exact ⟨(0), rq, H', ⟨Nat.le_refl _⟩, ⟨bq⟩⟩
   case round =>
    clear H'
    obtain ⟨x15_2, rfl, HA, HK2, HB⟩ := hrel
    cases gk with
    | zero => exact absurd HA.out (by simp [rewrite_letters_admissible.l0])
    | succ k2 =>
     have H := HA.out
     clear HA
     simp only [rewrite_letters_admissible.l0] at H
     by_cases c5 : x15_2 < (l0.length : Int)
     ·rw [if_pos c5] at H
      have c5b0 : decide (x15_2 < (l0.length : Int)) = true := decide_eq_true c5
      clear c5
      by_cases c6 : 0 ≤ x15_2
      ·rw [if_pos c6] at H
       have c6b0 : decide (0 ≤ x15_2) = true := decide_eq_true c6
       clear c6
       by_cases c7 : x15_2 < (l0.length : Int)
       ·rw [if_pos c7] at H
        have c7b0 : decide (x15_2 < (l0.length : Int)) = true := decide_eq_true c7
        clear c7
        by_cases c8 : ((rd_T48 l0 x15_2).f0) ≤ 32
        ·rw [if_pos c8] at H
         have c8b0 : decide (((rd_T48 l0 x15_2).f0) ≤ 32) = true := decide_eq_true c8
         clear c8
         obtain rfl := Option.some.inj H
         have p163 : 0 ≤ (x15_2 : Int) := oq
         have q163 : x15_2 < (l0.length : Int) := oq
         obtain ⟨ad163, e163, hx163_0, hx163_1⟩ := at_T48 HR0.out x15_2 p163 q163
         cases e163
         replace hx163_0 := cw hx163_0
         replace hx163_1 := cw hx163_1
         replace p163 := eq_true p163
         replace q163 := eq_true q163
         try go_wp2_with (first | ((with_reducible refine gate_dst (N := 4) rfl ?_); (try (refine gate_guard (by rfl) ?_; dsimp only)); refine bx 4 #[.int .i32 0, .int .u32 0] 48 ?_; intro gb164 hg w9 hbox hb; have BK164 := am hbox; have GE164 := sz hg; replace HB := bs hb; clear hb hbox hg; obtain ⟨zaa, zab, zac, zad⟩ := bc2 BK164))
         have n0_ : Aside0 (((w9.setCell ⟨gb164, 0, none⟩ (.int .i32 ((rd_T48 l0 x15_2).f0))).setCell ⟨gb164, 1, none⟩ (.int .u32 ((rd_T48 l0 x15_2).f1))).heap[gb164]? = some (.cells #[.int .i32 ((rd_T48 l0 x15_2).f0), .int .u32 ((rd_T48 l0 x15_2).f1)] 48 (0, 0))) := ⟨bp BK164⟩
         have n1_ : Aside0 (Below w.heap.size w ((w9.setCell ⟨gb164, 0, none⟩ (.int .i32 ((rd_T48 l0 x15_2).f0))).setCell ⟨gb164, 1, none⟩ (.int .u32 ((rd_T48 l0 x15_2).f1)))) := ⟨bq⟩
         (try clear BK164)
         (try clear HB)
         generalize ((w9.setCell ⟨gb164, 0, none⟩ (.int .i32 ((rd_T48 l0 x15_2).f0))).setCell ⟨gb164, 1, none⟩ (.int .u32 ((rd_T48 l0 x15_2).f1))) = w11 at n0_ n1_ ⊢
         have BK164 := n0_
         have HB := n1_
         clear n0_ n1_
         have n0_ := am (blk_drew BK164.out)
         have n1_ := am (below_drew1 HB.out)
         clear BK164
         clear HB
         have BK164 := n0_
         have HB := n1_
         clear n0_ n1_
         refine start_ (n := 17) (S := fun w' => w'.cell? ⟨gb164, 0, none⟩ = some (.int .i32 ((rd_T48 l0 x15_2).f0)) ∧ w'.cell? ⟨gb164, 1, none⟩ = some (.int .u32 ((rd_T48 l0 x15_2).f1))) (ds := []) (tf 17 0) (by kernel_rfl) rfl rfl ⟨(blk_cell BK164.out 0).trans rfl, (blk_cell BK164.out 1).trans rfl⟩ (fun hHeld => ?_); refine with_tabW rewrite_letters_admissible.tab6 rewrite_letters_admissible.bits6 (fun HT_ HW_ => ?_)
         generalize w11.drew = w12 at BK164 HB hHeld ⊢
         refine pu 0 20 (tf 17 1) ?_
         refine take_ (i := 1) (N := some 21) (v := ?_) (a' := ?_) (tf 17 2) rfl rfl (take_ofW HT_.out HW_.out (by kernel_rfl)) (fun _ _ _ h => h) (Or.inl ⟨by rfl, ?_⟩) hHeld ?_ ?_
         rotate_left
         ·rintro w' ⟨s0, s1⟩
          go_simp
          with_reducible rfl
         rotate_left
         ·simp only [Act.put, List.setIfInBounds_toArray, List.set_cons_zero, List.set_cons_succ, i64_w, i32_w]
          rfl
         refine pu 2 22 (tf 17 3) ?_
         refine pu 3 23 (tf 17 4) ?_
         refine pv 4 24 (tf 17 5) ?_
         refine pv 5 25 (tf 17 6) ?_
         refine pv 6 26 (tf 17 7) ?_
         refine pv 7 27 (tf 17 8) ?_
         refine pu 8 28 (tf 17 9) ?_
         refine pu 9 29 (tf 17 10) ?_
         refine pv 10 30 (tf 17 11) ?_
         refine pv 11 31 (tf 17 12) ?_
         refine pv 12 32 (tf 17 13) ?_
         refine pv 13 33 (tf 17 14) ?_
         refine pv 14 34 (tf 17 15) ?_
         refine pv 15 35 (tf 17 16) ?_
         refine pu 16 36 (tf 17 17) ?_
         refine done_ (done_of HT_.out (by kernel_rfl)) ?_
         try go_wp2
         go_ret
         exact ⟨eq', bq⟩
        rw [if_neg c8] at H
        have c8b0 : decide (((rd_T48 l0 x15_2).f0) ≤ 32) = false := decide_eq_false c8
        clear c8
        replace H := Option.bind_eq_some_iff.mp H
        obtain ⟨t165, A130, H⟩ := H
        (try dsimp only at H)
        have A13 := am A130
        clear A130
        by_cases c14 : t165 = true
        ·subst c14
         rw [if_pos rfl] at H
         have c15b0 := eq_true (oq : 0 ≤ x15_2)
         by_cases c16 : x15_2 ≤ (l0.length : Int)
         ·rw [if_pos c16] at H
          have c16b0 := eq_true c16
          have c16b1 : decide (x15_2 ≤ (l0.length : Int)) = true := decide_eq_true c16
          clear c16
          obtain ⟨y166, hy166⟩ : ∃ y_ : List (S48), y_ = (l0.take (x15_2 : Int).toNat) := ⟨_, rfl⟩
          replace H : ((rewrite_letters_has.f k2 y166 ((rd_T48 l0 x15_2).f0)).bind fun t170 => (if t170 = true then (some false) else (rewrite_letters_admissible.l0 k2 l0 l0 (l0.length : Int) (wrap64 (x15_2 + 1))))) = some r := by first | (rw [hy166]; with_reducible exact H) | (have H2_ := (Option.bind_some _ _).symm.trans H; rw [hy166]; with_reducible exact H2_) | (have H2_ := (Option.bind_some _ _).symm.trans H; with_reducible exact H2_) | with_reducible exact H | (rw [hy166]; exact H) | exact H
          have Ny166 := am hy166
          clear hy166
          replace H := Option.bind_eq_some_iff.mp H
          obtain ⟨t170, A170, H⟩ := H
          (try dsimp only at H)
          have A17 := am A170
          clear A170
          by_cases c18 : t170 = true
          ·subst c18
           rw [if_pos rfl] at H
           obtain rfl := Option.some.inj H
           have p163 : 0 ≤ (x15_2 : Int) := oq
           have q163 : x15_2 < (l0.length : Int) := oq
           obtain ⟨ad163, e163, hx163_0, hx163_1⟩ := at_T48 HR0.out x15_2 p163 q163
           cases e163
           replace hx163_0 := cw hx163_0
           replace hx163_1 := cw hx163_1
           replace p163 := eq_true p163
           replace q163 := eq_true q163
           try go_wp2_with (first | ((with_reducible refine gate_dst (N := 4) rfl ?_); (try (refine gate_guard (by rfl) ?_; dsimp only)); refine bx 4 #[.int .i32 0, .int .u32 0] 48 ?_; intro gb164 hg w19 hbox hb; have BK164 := am hbox; have GE164 := sz hg; replace HB := bs hb; clear hb hbox hg; obtain ⟨zae, zaf, zag, zah⟩ := bc2 BK164))
           have n0_ : Aside0 (((w19.setCell ⟨gb164, 0, none⟩ (.int .i32 ((rd_T48 l0 x15_2).f0))).setCell ⟨gb164, 1, none⟩ (.int .u32 ((rd_T48 l0 x15_2).f1))).heap[gb164]? = some (.cells #[.int .i32 ((rd_T48 l0 x15_2).f0), .int .u32 ((rd_T48 l0 x15_2).f1)] 48 (0, 0))) := ⟨bp BK164⟩
           have n1_ : Aside0 (Below w.heap.size w ((w19.setCell ⟨gb164, 0, none⟩ (.int .i32 ((rd_T48 l0 x15_2).f0))).setCell ⟨gb164, 1, none⟩ (.int .u32 ((rd_T48 l0 x15_2).f1)))) := ⟨bq⟩
           (try clear BK164)
           (try clear HB)
           generalize ((w19.setCell ⟨gb164, 0, none⟩ (.int .i32 ((rd_T48 l0 x15_2).f0))).setCell ⟨gb164, 1, none⟩ (.int .u32 ((rd_T48 l0 x15_2).f1))) = w21 at n0_ n1_ ⊢
           have BK164 := n0_
           have HB := n1_
           clear n0_ n1_
           have n0_ := am (blk_drew BK164.out)
           have n1_ := am (below_drew1 HB.out)
           clear BK164
           clear HB
           have BK164 := n0_
           have HB := n1_
           clear n0_ n1_
           refine start_ (n := 17) (S := fun w' => w'.cell? ⟨gb164, 0, none⟩ = some (.int .i32 ((rd_T48 l0 x15_2).f0)) ∧ w'.cell? ⟨gb164, 1, none⟩ = some (.int .u32 ((rd_T48 l0 x15_2).f1))) (ds := []) (tf 17 0) (by kernel_rfl) rfl rfl ⟨(blk_cell BK164.out 0).trans rfl, (blk_cell BK164.out 1).trans rfl⟩ (fun hHeld => ?_); refine with_tabW rewrite_letters_admissible.tab6 rewrite_letters_admissible.bits6 (fun HT_ HW_ => ?_)
           generalize w21.drew = w22 at BK164 HB hHeld ⊢
           refine pu 0 20 (tf 17 1) ?_
           refine take_ (i := 1) (N := some 21) (v := ?_) (a' := ?_) (tf 17 2) rfl rfl (take_ofW HT_.out HW_.out (by kernel_rfl)) (fun _ _ _ h => h) (Or.inl ⟨by rfl, ?_⟩) hHeld ?_ ?_
           rotate_left
           ·rintro w' ⟨s0, s1⟩
            go_simp
            with_reducible rfl
           rotate_left
           ·simp only [Act.put, List.setIfInBounds_toArray, List.set_cons_zero, List.set_cons_succ, i64_w, i32_w]
            rfl
           refine pu 2 22 (tf 17 3) ?_
           refine pu 3 23 (tf 17 4) ?_
           refine pu 4 24 (tf 17 5) ?_
           refine take_ (i := 5) (N := some 25) (v := ?_) (a' := ?_) (tf 17 6) rfl rfl (take_ofW HT_.out HW_.out (by kernel_rfl)) (fun _ _ _ h => h) (Or.inl ⟨by rfl, ?_⟩) hHeld ?_ ?_
           rotate_left
           ·rintro w' ⟨s0, s1⟩
            go_simp
            with_reducible rfl
           rotate_left
           ·simp only [Act.put, List.setIfInBounds_toArray, List.set_cons_zero, List.set_cons_succ, i64_w, i32_w]
            rfl
           refine one_ (i := 6) (N := some 26) (tf 17 7) rfl rfl (one_of HT_.out (by kernel_rfl)) (by decide) (fun K hK => ?_)
           refine goes_ Tryz.func58 (by kernel_rfl) rfl #[.int .i32 ((rd_T48 l0 x15_2).f0)] (by rfl) rfl rfl (by (try simp only [List.map_toArray, List.map_cons, List.map_nil]); first | done | rfl | (simp only [List.length_drop, List.length_take]; rfl)) ?_
           with_reducible refine (utf8_ValidRune.calls k2 ((rd_T48 l0 x15_2).f0) true _ A13.out).mono ?_
           rintro e w' ⟨rfl, ⟨nd, rfl⟩⟩
           refine ⟨_, rfl, ?_⟩
           have q23 : (x15_2 : Int) ≤ ((l0.length : Int) : Int) := oq
           obtain ⟨i023, hi023, _, hsz23, _⟩ := info_parts info48
           have hroom23 : l0.length ≤ c0 := HC0.out
           have hC23 : Kd.C k48 _ (some ad163) l0.length l0 := HR0.out
           have hcut23 := cut_to (P := Tryz.prog) 114 48 .i64 Tryz.underlying114 hi023 (some ad163) l0.length c0 x15_2 (oq) q23 hroom23
           have hr23 := Kd.C_take (m := (x15_2 : Int).toNat) hC23 (by omega)
           have hy23 : y166.length = (x15_2 : Int).toNat := (by rw [Ny166.out, List.length_take]; omega)
           rw [← Ny166.out] at hr23
           rw [← hy23] at hcut23
           have HR169 := am hr23
           have HC169 := am (show y166.length ≤ c0 from by omega)
           clear hr23 hC23 hroom23 hi023 hsz23
           have KY23 := am hy23
           clear hy23
           replace q23 := eq_true q23
           refine hK.out _ _ ⟨(blk_cell BK164.out 0).trans rfl, (blk_cell BK164.out 1).trans rfl⟩ (fun hHeld => ?_)
           clear hK K
           refine norm_ (a' := ?_) ?_ ?_
           rotate_left
           ·show Act.put _ (some 26) _ = _
            simp only [Act.put, List.setIfInBounds_toArray, List.set_cons_zero, List.set_cons_succ, i64_w, i32_w]
            rfl
           refine pu 7 27 (tf 17 8) ?_
           refine pu 8 28 (tf 17 9) ?_
           refine pu 9 29 (tf 17 10) ?_
           refine pu 10 30 (tf 17 11) ?_
           refine pu 11 31 (tf 17 12) ?_
           refine pu 12 32 (tf 17 13) ?_
           refine pu 13 33 (tf 17 14) ?_
           refine take_ (i := 14) (N := some 34) (v := ?_) (a' := ?_) (tf 17 15) rfl rfl (take_ofW HT_.out HW_.out (by kernel_rfl)) (fun _ _ _ h => h) (Or.inl ⟨by rfl, ?_⟩) hHeld ?_ ?_
           rotate_left
           ·rintro w' ⟨s0, s1⟩
            go_simp
            with_reducible rfl
           rotate_left
           ·simp only [Act.put, List.setIfInBounds_toArray, List.set_cons_zero, List.set_cons_succ, i64_w, i32_w]
            rfl
           refine one_ (i := 15) (N := some 35) (tf 17 16) rfl rfl (one_of HT_.out (by kernel_rfl)) (by decide) (fun K hK => ?_)
           refine goes_ Tryz.func60 (by kernel_rfl) rfl #[.slice (some ad163) y166.length c0, .int .i32 ((rd_T48 l0 x15_2).f0)] (by rfl) rfl rfl (by (try simp only [List.map_toArray, List.map_cons, List.map_nil]); first | done | rfl | (simp only [List.length_drop, List.length_take]; rfl)) ?_
           with_reducible refine (rewrite_letters_has.calls k2 _ _ y166 ((rd_T48 l0 x15_2).f0) true _ ?side1 ?side2 A17.out).mono ?_
           (case side1 => repeat (first | exact (Kd.C_below HR169.out bq) | (with_reducible refine Kd.C_alloc ?_ _) | (with_reducible refine Kd.C_drewN ?_ _) | (with_reducible refine Kd.C_drew ?_)))
           (case side2 => exact HC169.out)
           rintro e w24 ⟨rfl, hb⟩
           refine ⟨_, rfl, ?_⟩
           have n0_ := (bk BK164 hb)
           have n1_ := bs hb
           clear BK164
           clear HB
           have BK164 := n0_
           have HB := n1_
           clear n0_ n1_
           (try clear hb)
           (try clear hb2)
           (try clear hk)
           (try clear hi)
           refine hK.out _ _ ⟨(blk_cell BK164.out 0).trans rfl, (blk_cell BK164.out 1).trans rfl⟩ (fun hHeld => ?_)
           clear hK K
           refine norm_ (a' := ?_) ?_ ?_
           rotate_left
           ·show Act.put _ (some 35) _ = _
            simp only [Act.put, List.setIfInBounds_toArray, List.set_cons_zero, List.set_cons_succ, i64_w, i32_w]
            rfl
           refine pu 16 36 (tf 17 17) ?_
           refine done_ (done_of HT_.out (by kernel_rfl)) ?_
           try go_wp2
           go_ret
           exact ⟨eq', bq⟩
          replace c18 := Bool.eq_false_iff.mpr c18
          subst c18
          rw [if_neg nf] at H
          have H' := am H
          clear H
          have p163 : 0 ≤ (x15_2 : Int) := oq
          have q163 : x15_2 < (l0.length : Int) := oq
          obtain ⟨ad163, e163, hx163_0, hx163_1⟩ := at_T48 HR0.out x15_2 p163 q163
          cases e163
          replace hx163_0 := cw hx163_0
          replace hx163_1 := cw hx163_1
          replace p163 := eq_true p163
          replace q163 := eq_true q163
          try go_wp2_with (first | ((with_reducible refine gate_dst (N := 4) rfl ?_); (try (refine gate_guard (by rfl) ?_; dsimp only)); refine bx 4 #[.int .i32 0, .int .u32 0] 48 ?_; intro gb164 hg w25 hbox hb; have BK164 := am hbox; have GE164 := sz hg; replace HB := bs hb; clear hb hbox hg; obtain ⟨zai, zaj, zak, zal⟩ := bc2 BK164))
          have n0_ : Aside0 (((w25.setCell ⟨gb164, 0, none⟩ (.int .i32 ((rd_T48 l0 x15_2).f0))).setCell ⟨gb164, 1, none⟩ (.int .u32 ((rd_T48 l0 x15_2).f1))).heap[gb164]? = some (.cells #[.int .i32 ((rd_T48 l0 x15_2).f0), .int .u32 ((rd_T48 l0 x15_2).f1)] 48 (0, 0))) := ⟨bp BK164⟩
          have n1_ : Aside0 (Below w.heap.size w ((w25.setCell ⟨gb164, 0, none⟩ (.int .i32 ((rd_T48 l0 x15_2).f0))).setCell ⟨gb164, 1, none⟩ (.int .u32 ((rd_T48 l0 x15_2).f1)))) := ⟨bq⟩
          (try clear BK164)
          (try clear HB)
          generalize ((w25.setCell ⟨gb164, 0, none⟩ (.int .i32 ((rd_T48 l0 x15_2).f0))).setCell ⟨gb164, 1, none⟩ (.int .u32 ((rd_T48 l0 x15_2).f1))) = w27 at n0_ n1_ ⊢
          have BK164 := n0_
          have HB := n1_
          clear n0_ n1_
          have n0_ := am (blk_drew BK164.out)
          have n1_ := am (below_drew1 HB.out)
          clear BK164
          clear HB
          have BK164 := n0_
          have HB := n1_
          clear n0_ n1_
          refine start_ (n := 17) (S := fun w' => w'.cell? ⟨gb164, 0, none⟩ = some (.int .i32 ((rd_T48 l0 x15_2).f0)) ∧ w'.cell? ⟨gb164, 1, none⟩ = some (.int .u32 ((rd_T48 l0 x15_2).f1))) (ds := []) (tf 17 0) (by kernel_rfl) rfl rfl ⟨(blk_cell BK164.out 0).trans rfl, (blk_cell BK164.out 1).trans rfl⟩ (fun hHeld => ?_); refine with_tabW rewrite_letters_admissible.tab6 rewrite_letters_admissible.bits6 (fun HT_ HW_ => ?_)
          generalize w27.drew = w28 at BK164 HB hHeld ⊢
          refine pu 0 20 (tf 17 1) ?_
          refine take_ (i := 1) (N := some 21) (v := ?_) (a' := ?_) (tf 17 2) rfl rfl (take_ofW HT_.out HW_.out (by kernel_rfl)) (fun _ _ _ h => h) (Or.inl ⟨by rfl, ?_⟩) hHeld ?_ ?_
          rotate_left
          ·rintro w' ⟨s0, s1⟩
           go_simp
           with_reducible rfl
          rotate_left
          ·simp only [Act.put, List.setIfInBounds_toArray, List.set_cons_zero, List.set_cons_succ, i64_w, i32_w]
           rfl
          refine pu 2 22 (tf 17 3) ?_
          refine pu 3 23 (tf 17 4) ?_
          refine pu 4 24 (tf 17 5) ?_
          refine take_ (i := 5) (N := some 25) (v := ?_) (a' := ?_) (tf 17 6) rfl rfl (take_ofW HT_.out HW_.out (by kernel_rfl)) (fun _ _ _ h => h) (Or.inl ⟨by rfl, ?_⟩) hHeld ?_ ?_
          rotate_left
          ·rintro w' ⟨s0, s1⟩
           go_simp
           with_reducible rfl
          rotate_left
          ·simp only [Act.put, List.setIfInBounds_toArray, List.set_cons_zero, List.set_cons_succ, i64_w, i32_w]
           rfl
          refine one_ (i := 6) (N := some 26) (tf 17 7) rfl rfl (one_of HT_.out (by kernel_rfl)) (by decide) (fun K hK => ?_)
          refine goes_ Tryz.func58 (by kernel_rfl) rfl #[.int .i32 ((rd_T48 l0 x15_2).f0)] (by rfl) rfl rfl (by (try simp only [List.map_toArray, List.map_cons, List.map_nil]); first | done | rfl | (simp only [List.length_drop, List.length_take]; rfl)) ?_
          with_reducible refine (utf8_ValidRune.calls k2 ((rd_T48 l0 x15_2).f0) true _ A13.out).mono ?_
          rintro e w' ⟨rfl, ⟨nd, rfl⟩⟩
          refine ⟨_, rfl, ?_⟩
          have q29 : (x15_2 : Int) ≤ ((l0.length : Int) : Int) := oq
          obtain ⟨i029, hi029, _, hsz29, _⟩ := info_parts info48
          have hroom29 : l0.length ≤ c0 := HC0.out
          have hC29 : Kd.C k48 _ (some ad163) l0.length l0 := HR0.out
          have hcut29 := cut_to (P := Tryz.prog) 114 48 .i64 Tryz.underlying114 hi029 (some ad163) l0.length c0 x15_2 (oq) q29 hroom29
          have hr29 := Kd.C_take (m := (x15_2 : Int).toNat) hC29 (by omega)
          have hy29 : y166.length = (x15_2 : Int).toNat := (by rw [Ny166.out, List.length_take]; omega)
          rw [← Ny166.out] at hr29
          rw [← hy29] at hcut29
          have HR169 := am hr29
          have HC169 := am (show y166.length ≤ c0 from by omega)
          clear hr29 hC29 hroom29 hi029 hsz29
          have KY29 := am hy29
          clear hy29
          replace q29 := eq_true q29
          refine hK.out _ _ ⟨(blk_cell BK164.out 0).trans rfl, (blk_cell BK164.out 1).trans rfl⟩ (fun hHeld => ?_)
          clear hK K
          refine norm_ (a' := ?_) ?_ ?_
          rotate_left
          ·show Act.put _ (some 26) _ = _
           simp only [Act.put, List.setIfInBounds_toArray, List.set_cons_zero, List.set_cons_succ, i64_w, i32_w]
           rfl
          refine pu 7 27 (tf 17 8) ?_
          refine pu 8 28 (tf 17 9) ?_
          refine pu 9 29 (tf 17 10) ?_
          refine pu 10 30 (tf 17 11) ?_
          refine pu 11 31 (tf 17 12) ?_
          refine pu 12 32 (tf 17 13) ?_
          refine pu 13 33 (tf 17 14) ?_
          refine take_ (i := 14) (N := some 34) (v := ?_) (a' := ?_) (tf 17 15) rfl rfl (take_ofW HT_.out HW_.out (by kernel_rfl)) (fun _ _ _ h => h) (Or.inl ⟨by rfl, ?_⟩) hHeld ?_ ?_
          rotate_left
          ·rintro w' ⟨s0, s1⟩
           go_simp
           with_reducible rfl
          rotate_left
          ·simp only [Act.put, List.setIfInBounds_toArray, List.set_cons_zero, List.set_cons_succ, i64_w, i32_w]
           rfl
          refine one_ (i := 15) (N := some 35) (tf 17 16) rfl rfl (one_of HT_.out (by kernel_rfl)) (by decide) (fun K hK => ?_)
          refine goes_ Tryz.func60 (by kernel_rfl) rfl #[.slice (some ad163) y166.length c0, .int .i32 ((rd_T48 l0 x15_2).f0)] (by rfl) rfl rfl (by (try simp only [List.map_toArray, List.map_cons, List.map_nil]); first | done | rfl | (simp only [List.length_drop, List.length_take]; rfl)) ?_
          with_reducible refine (rewrite_letters_has.calls k2 _ _ y166 ((rd_T48 l0 x15_2).f0) false _ ?side1 ?side2 A17.out).mono ?_
          (case side1 => repeat (first | exact (Kd.C_below HR169.out bq) | (with_reducible refine Kd.C_alloc ?_ _) | (with_reducible refine Kd.C_drewN ?_ _) | (with_reducible refine Kd.C_drew ?_)))
          (case side2 => exact HC169.out)
          rintro e w30 ⟨rfl, hb⟩
          refine ⟨_, rfl, ?_⟩
          have n0_ := (bk BK164 hb)
          have n1_ := bs hb
          clear BK164
          clear HB
          have BK164 := n0_
          have HB := n1_
          clear n0_ n1_
          (try clear hb)
          (try clear hb2)
          (try clear hk)
          (try clear hi)
          refine hK.out _ _ ⟨(blk_cell BK164.out 0).trans rfl, (blk_cell BK164.out 1).trans rfl⟩ (fun hHeld => ?_)
          clear hK K
          refine norm_ (a' := ?_) ?_ ?_
          rotate_left
          ·show Act.put _ (some 35) _ = _
           simp only [Act.put, List.setIfInBounds_toArray, List.set_cons_zero, List.set_cons_succ, i64_w, i32_w]
           rfl
          refine pu 16 36 (tf 17 17) ?_
          refine done_ (done_of HT_.out (by kernel_rfl)) ?_
          try go_wp2
          go_roundg k2
          case measure => have := HJ1.out; have := HK2.out; omega
          case rel => exact ⟨(wrap64 (x15_2 + 1)), rq, H', ⟨by have := HJ1.out; have := HK2.out; omega⟩, ⟨bq⟩⟩
         rw [if_neg c16] at H
         exact absurd H (by simp)
        replace c14 := Bool.eq_false_iff.mpr c14
        subst c14
        rw [if_neg nf] at H
        obtain rfl := Option.some.inj H
        have p163 : 0 ≤ (x15_2 : Int) := oq
        have q163 : x15_2 < (l0.length : Int) := oq
        obtain ⟨ad163, e163, hx163_0, hx163_1⟩ := at_T48 HR0.out x15_2 p163 q163
        cases e163
        replace hx163_0 := cw hx163_0
        replace hx163_1 := cw hx163_1
        replace p163 := eq_true p163
        replace q163 := eq_true q163
        try go_wp2_with (first | ((with_reducible refine gate_dst (N := 4) rfl ?_); (try (refine gate_guard (by rfl) ?_; dsimp only)); refine bx 4 #[.int .i32 0, .int .u32 0] 48 ?_; intro gb164 hg w31 hbox hb; have BK164 := am hbox; have GE164 := sz hg; replace HB := bs hb; clear hb hbox hg; obtain ⟨zam, zan, zao, zap⟩ := bc2 BK164))
        have n0_ : Aside0 (((w31.setCell ⟨gb164, 0, none⟩ (.int .i32 ((rd_T48 l0 x15_2).f0))).setCell ⟨gb164, 1, none⟩ (.int .u32 ((rd_T48 l0 x15_2).f1))).heap[gb164]? = some (.cells #[.int .i32 ((rd_T48 l0 x15_2).f0), .int .u32 ((rd_T48 l0 x15_2).f1)] 48 (0, 0))) := ⟨bp BK164⟩
        have n1_ : Aside0 (Below w.heap.size w ((w31.setCell ⟨gb164, 0, none⟩ (.int .i32 ((rd_T48 l0 x15_2).f0))).setCell ⟨gb164, 1, none⟩ (.int .u32 ((rd_T48 l0 x15_2).f1)))) := ⟨bq⟩
        (try clear BK164)
        (try clear HB)
        generalize ((w31.setCell ⟨gb164, 0, none⟩ (.int .i32 ((rd_T48 l0 x15_2).f0))).setCell ⟨gb164, 1, none⟩ (.int .u32 ((rd_T48 l0 x15_2).f1))) = w33 at n0_ n1_ ⊢
        have BK164 := n0_
        have HB := n1_
        clear n0_ n1_
        have n0_ := am (blk_drew BK164.out)
        have n1_ := am (below_drew1 HB.out)
        clear BK164
        clear HB
        have BK164 := n0_
        have HB := n1_
        clear n0_ n1_
        refine start_ (n := 17) (S := fun w' => w'.cell? ⟨gb164, 0, none⟩ = some (.int .i32 ((rd_T48 l0 x15_2).f0)) ∧ w'.cell? ⟨gb164, 1, none⟩ = some (.int .u32 ((rd_T48 l0 x15_2).f1))) (ds := []) (tf 17 0) (by kernel_rfl) rfl rfl ⟨(blk_cell BK164.out 0).trans rfl, (blk_cell BK164.out 1).trans rfl⟩ (fun hHeld => ?_); refine with_tabW rewrite_letters_admissible.tab6 rewrite_letters_admissible.bits6 (fun HT_ HW_ => ?_)
        generalize w33.drew = w34 at BK164 HB hHeld ⊢
        refine pu 0 20 (tf 17 1) ?_
        refine take_ (i := 1) (N := some 21) (v := ?_) (a' := ?_) (tf 17 2) rfl rfl (take_ofW HT_.out HW_.out (by kernel_rfl)) (fun _ _ _ h => h) (Or.inl ⟨by rfl, ?_⟩) hHeld ?_ ?_
        rotate_left
        ·rintro w' ⟨s0, s1⟩
         go_simp
         with_reducible rfl
        rotate_left
        ·simp only [Act.put, List.setIfInBounds_toArray, List.set_cons_zero, List.set_cons_succ, i64_w, i32_w]
         rfl
        refine pu 2 22 (tf 17 3) ?_
        refine pu 3 23 (tf 17 4) ?_
        refine pu 4 24 (tf 17 5) ?_
        refine take_ (i := 5) (N := some 25) (v := ?_) (a' := ?_) (tf 17 6) rfl rfl (take_ofW HT_.out HW_.out (by kernel_rfl)) (fun _ _ _ h => h) (Or.inl ⟨by rfl, ?_⟩) hHeld ?_ ?_
        rotate_left
        ·rintro w' ⟨s0, s1⟩
         go_simp
         with_reducible rfl
        rotate_left
        ·simp only [Act.put, List.setIfInBounds_toArray, List.set_cons_zero, List.set_cons_succ, i64_w, i32_w]
         rfl
        refine one_ (i := 6) (N := some 26) (tf 17 7) rfl rfl (one_of HT_.out (by kernel_rfl)) (by decide) (fun K hK => ?_)
        refine goes_ Tryz.func58 (by kernel_rfl) rfl #[.int .i32 ((rd_T48 l0 x15_2).f0)] (by rfl) rfl rfl (by (try simp only [List.map_toArray, List.map_cons, List.map_nil]); first | done | rfl | (simp only [List.length_drop, List.length_take]; rfl)) ?_
        with_reducible refine (utf8_ValidRune.calls k2 ((rd_T48 l0 x15_2).f0) false _ A13.out).mono ?_
        rintro e w' ⟨rfl, ⟨nd, rfl⟩⟩
        refine ⟨_, rfl, ?_⟩
        refine hK.out _ _ ⟨(blk_cell BK164.out 0).trans rfl, (blk_cell BK164.out 1).trans rfl⟩ (fun hHeld => ?_)
        clear hK K
        refine norm_ (a' := ?_) ?_ ?_
        rotate_left
        ·show Act.put _ (some 26) _ = _
         simp only [Act.put, List.setIfInBounds_toArray, List.set_cons_zero, List.set_cons_succ, i64_w, i32_w]
         rfl
        refine pu 7 27 (tf 17 8) ?_
        refine pu 8 28 (tf 17 9) ?_
        refine pu 9 29 (tf 17 10) ?_
        refine pv 10 30 (tf 17 11) ?_
        refine pv 11 31 (tf 17 12) ?_
        refine pv 12 32 (tf 17 13) ?_
        refine pv 13 33 (tf 17 14) ?_
        refine pv 14 34 (tf 17 15) ?_
        refine pv 15 35 (tf 17 16) ?_
        refine pu 16 36 (tf 17 17) ?_
        refine done_ (done_of HT_.out (by kernel_rfl)) ?_
        try go_wp2
        go_ret
        exact ⟨eq', bq⟩
       rw [if_neg c7] at H
       exact absurd H (by simp)
      rw [if_neg c6] at H
      exact absurd H (by simp)
     rw [if_neg c5] at H
     have c5b0 : decide (x15_2 < (l0.length : Int)) = false := decide_eq_false c5
     clear c5
     obtain rfl := Option.some.inj H
     go_wp2
     go_ret
     exact ⟨eq', bq⟩
theorem utf8_ValidString.calls (a0 : ByteArray) (r : Bool) (w : World) (hG : Glob w) (h : utf8_ValidString.f a0 = some r) :
  Calls Tryz.prog 76 #[.string a0] w fun e w' => e = .returned (.bool r) ∧ Below w.heap.size w w' := by
 unfold utf8_ValidString.f at h
 by_cases h1 : a0.size ≤ 9223372036854775807
 ·rw [if_pos h1] at h
  obtain rfl := Option.some.inj h
  exact Go.Proofs.Any.utf8_ValidString laysValid a0 w h1 hG
 rw [if_neg h1] at h
 exact absurd h (by simp)
theorem rewrite_consists.calls (A0 : Option Addr) (c0 : Nat) (l : List S48) (n : Nat) (s : ByteArray) (r : Bool) (w : World) (hr0 : Kd.C k48 w A0 l.length l) (hc0 : l.length ≤ c0) (hl : (l.length : Int) ≤ 1000) (hs : s.size ≤ 1000000000) (hn : n ≤ 1000) (hG : Glob w) (h : consOK l n s = r) :
  Calls Tryz.prog 61 #[.string s, .int .i64 n, .func (.func 60) #[.slice A0 l.length c0] #[]] w fun e w' => e = .returned (.bool r) ∧ Below w.heap.size w w' := by
 have HR := am hr0
 have HC := am hc0
 have HL := am hl
 have HS := am hs
 have HG := am hG
 have HN0 := am hn
 have hvs : utf8_ValidString.f s = some (Lib.validD s.data.toList) := if_pos (by have := HS.out; omega)
 have HV := am hvs
 unfold consOK at h
 clear hr0 hc0 hl hs hG hvs hn
 cases hv : Lib.validD s.data.toList with
 | false =>
  rw [hv] at h HV
  obtain rfl : r = false := by simpa using h.symm
  clear h hv
  go_enter Tryz.func61, Tryz.ntmps61
  go_wp2_with (first | (go_at_call 76; refine (utf8_ValidString.calls s false _ HG.out HV.out).mono ?_; rintro e w1 ⟨rfl, hb⟩; have HB1 := am hb; clear hb))
  go_ret
  exact ⟨rfl, HB1.out⟩
 | true =>
  rw [hv] at h HV
  rw [Bool.true_and] at h
  have HA0 := am h
  clear h hv
  go_enter Tryz.func61, Tryz.ntmps61
  go_wp2_with (first | (go_at_call 76; refine (utf8_ValidString.calls s true _ HG.out HV.out).mono ?_; rintro e w1 ⟨rfl, hb⟩; have HB1 := am hb; clear hb))
  go_loopg [7] (s.size + 1) (fun kq v7 w' => ∃ (pos m : Nat) (xs : List Int), v7 = .int .i64 (m : Int) ∧ Aside0 (Left s kq pos xs) ∧ Aside0 ((xs.all (hasL l) && decide (((m + xs.length : Nat) : Int) ≤ (n : Int))) = r) ∧ Aside0 (m ≤ pos ∧ m ≤ n) ∧ Aside0 (w'.heap[w1.heap.size]? = some (.stringIter s pos)) ∧ Aside0 (Below w.heap.size w w'))
  case atStart => exact ⟨0, 0, rns s, (by first | rfl | (simp; done)), ⟨left_start s⟩, ⟨by have := HA0.out; simpa using this⟩, ⟨Nat.le_refl _, Nat.zero_le _⟩, ⟨blk_new w1 (.stringIter s 0)⟩, ⟨below_alloc HB1.out (.stringIter s 0)⟩⟩
  case round =>
   obtain ⟨pos, m, xs, rfl, HLf, HA, HM, HI, HB⟩ := hrel
   by_cases c1 : pos < s.size
   ·obtain ⟨k1, ys, rfl, rfl, HL1⟩ := left_next HLf.out c1
    have hnx : ∀ ty, (Instr.next (.pointer (some ⟨w1.heap.size, 0, none⟩)) true ty).run Tryz.prog wr = _ := fun ty => Lib.run_next_any_at wr w1.heap.size s pos ty HI.out c1
    have HI2 := am (Lib.iterAt_heap wr w1.heap.size s pos (pos + (Utf8.decode s pos).2) HI.out)
    have HB2 := am (Lib.below_iterAt HB.out HB1.out.size s (pos + (Utf8.decode s pos).2))
    have HLL := am HL1
    have hwm : wrap64 ((m : Int) + 1) = (m : Int) + 1 := by have := HN0.out; have := HM.out; unfold wrap64; omega
    clear HL1 HI HB HLf
    generalize hd : Utf8.decode s pos = d at *
    obtain ⟨d1, d2⟩ := d
    simp only at HLL HA hnx HI2 HB2
    have HM2 := am (show m + 1 ≤ pos + d2 by have := HM.out; have := Lib.decode_width_pos s pos c1; rw [hd] at this; simp only at this; omega)
    clear hd c1
    generalize wr.iterAt w1.heap.size s (pos + d2) = wi at *
    by_cases c2 : (n : Int) < (m : Int) + 1
    ·obtain rfl : r = false := by
      have := HA.out
      rw [← this, List.length_cons, decide_eq_false (by omega), Bool.and_false]
     have c2b : decide ((n : Int) < (m : Int) + 1) = true := decide_eq_true c2
     clear c2
     go_wp2
     go_ret
     exact ⟨rfl, HB2.out⟩
    have c2b : decide ((n : Int) < (m : Int) + 1) = false := decide_eq_false c2
    have C2 := am c2
    have HAS := am (has_ok l (d1 : Int) (by have := HL.out; omega))
    clear c2
    cases hf : hasL l (d1 : Int) with
    | false =>
     rw [hf] at HAS
     obtain rfl : r = false := by
      have := HA.out
      rw [List.all_cons, hf, Bool.false_and, Bool.false_and] at this
      exact this.symm
     clear hf
     go_wp2_with (first | (go_at_call 60; refine (rewrite_letters_has.calls _ A0 c0 l (d1 : Int) false _ (Kd.C_below HR.out HB2.out) HC.out HAS.out).mono ?_; rintro e w2 ⟨rfl, hbel⟩; have HB3 := am (below_step HB2.out hbel); clear hbel))
     go_ret
     exact ⟨rfl, HB3.out⟩
    | true =>
     rw [hf] at HAS
     have HA' : Aside0 ((ys.all (hasL l) && decide (((m + 1 + ys.length : Nat) : Int) ≤ (n : Int))) = r) := ⟨by
      have := HA.out
      rw [← this, List.all_cons, hf, Bool.true_and, List.length_cons, show m + 1 + ys.length = m + (ys.length + 1) by omega]⟩
     clear hf HA
     go_wp2_with (first | (go_at_call 60; refine (rewrite_letters_has.calls _ A0 c0 l (d1 : Int) true _ (Kd.C_below HR.out HB2.out) HC.out HAS.out).mono ?_; rintro e w2 ⟨rfl, hbel⟩; have HB3 := am (below_step HB2.out hbel); have HI3 := am (blk_below HI2.out hbel); clear hbel))
     go_roundg k1
     case measure => omega
     case rel => exact ⟨_, m + 1, ys, by first | rfl | (rw [hwm]; rfl), HLL, HA', ⟨HM2.out, by have := C2.out; omega⟩, HI3, HB3⟩
   obtain rfl := left_end HLf.out c1
   have hnx : ∀ ty, (Instr.next (.pointer (some ⟨w1.heap.size, 0, none⟩)) true ty).run Tryz.prog wr = _ := fun ty => Lib.run_next_end_at wr w1.heap.size s pos ty HI.out c1
   obtain rfl : r = true := by
    have := HA.out
    rw [← this]
    simp
    have := HM.out.2
    omega
   clear c1
   go_wp2
   go_ret
   exact ⟨rfl, HB.out⟩
theorem rewrite_letters_isWord.calls (A0 : Option Addr) (c0 : Nat) (l : List S48) (s : ByteArray) (r : Bool) (w : World) (hr0 : Kd.C k48 w A0 l.length l) (hc0 : l.length ≤ c0) (hG : Glob w) (h : rewrite_letters_isWord.f l s = some r) :
  Calls Tryz.prog 53 #[.slice A0 l.length c0, .string s] w fun e w' => e = .returned (.bool r) ∧ Below w.heap.size w w' := by
 unfold rewrite_letters_isWord.f at h
 by_cases h1 : okS l s = true
 ·rw [if_pos h1] at h
  have h := Option.some.inj h
  have HR := am hr0
  have HG := am hG
  have HC := am hc0
  have HO := am (okS_at h1)
  have HH := am h
  clear hr0 hG h1 hc0 h
  go_enter Tryz.func53, Tryz.ntmps53
  go_wp2_with (first | (go_at_call 61; refine (rewrite_consists.calls A0 c0 l 40 s r _ HR.out HC.out HO.out.1.2 HO.out.2 (by decide) HG.out HH.out).mono ?_; rintro e w1 ⟨rfl, hb⟩; have HB1 := am hb; clear hb))
  go_ret
  exact ⟨rfl, HB1.out⟩
 rw [if_neg h1] at h
 exact absurd h (by simp)
theorem pattern_proper.calls (A0 : Option Addr) (c0 : Nat) (l : List S48) (w : World) (hr0 : Kd.C k48 w A0 l.length l) (hc0 : l.length ≤ c0) (ho : okA l = true) (r : Bool) (h : proper l = r) :
  Calls Tryz.prog 78 #[.slice A0 l.length c0] w fun e w' => ∃ mp, e = .returned (.tuple #[.map mp, .bool r]) ∧ Below w.heap.size w w' ∧ (r = true → ∃ b n, mp = some b ∧ w.heap.size ≤ b ∧ Tb w' b n (distinct l l.length) (firstIn l l.length)) := by
 have HR := am hr0
 have HG := am (okA_at ho).1
 have HL := am (okA_at ho).2
 have hmm : ∀ W : World, (Instr.makeMap 124 (some (.int .i64 (l.length : Int)))).run Tryz.prog W = .ok (.map (some W.heap.size)) (W.alloc (.map #[] 0)) := fun W => by
  simp [Instr.makeMap, run_underlying Tryz.underlying124, asInt, asIntOf, Result.andThen]
 have q0 : (0 ≤ (l.length : Int)) = True := eq_true (by omega)
 have HH := am h
 clear hr0 ho h
 go_enter Tryz.func78, Tryz.ntmps78
 go_wp2
 have hT := am ((tb_made w).congr (g := firstIn l 0) (m' := distinct l 0) (fun x => rfl) rfl)
 go_loopg [14] (l.length + 1) (fun kq v14 w' => ∃ (m n : Nat), v14 = .int .i64 (m : Int) ∧ Aside0 (n ≤ m) ∧ Aside0 (m ≤ l.length) ∧ Aside0 (propTo l m = true) ∧ Aside0 (l.length - m < kq) ∧ Aside0 (Tb w' w.heap.size n (distinct l m) (firstIn l m)) ∧ Aside0 (Below w.heap.size w w'))
 case atStart => exact ⟨0, 0, rfl, ⟨Nat.le_refl _⟩, ⟨Nat.zero_le _⟩, ⟨rfl⟩, ⟨by omega⟩, hT, ⟨below_alloc (Below.refl _ _) _⟩⟩
 case round =>
  clear hT
  obtain ⟨m, n, rfl, HN, HM, HP, HK, HT, HB⟩ := hrel
  obtain ⟨k1, rfl⟩ : ∃ k1, gk = k1 + 1 := ⟨gk - 1, by have := HK.out; omega⟩
  by_cases c1 : (m : Int) < (l.length : Int)
  ·have HRr := am (Kd.C_below HR.out HB.out)
   obtain ⟨ad2, ead2, hx0, hx1⟩ := at_T48 HRr.out (m : Int) (by omega) c1
   subst ead2
   rw [Int.toNat_natCast] at hx0 hx1
   have p1 : (0 ≤ (m : Int)) = True := eq_true (by omega)
   have q2 : ((m : Int) < (l.length : Int)) = True := eq_true c1
   have q2b : decide ((m : Int) < (l.length : Int)) = true := decide_eq_true c1
   have hw := good_at HG.out (i := (m : Int)) (by omega) c1
   have hlk : ∀ o : Obj, (Instr.lookup 124 (.map (some w.heap.size)) (.int .i32 (rd_T48 l m).f0) true).run Tryz.prog (wr.alloc o) = .ok (.tuple #[.int .i64 ((firstIn l m (rd_T48 l m).f0).getD 0), .bool (firstIn l m (rd_T48 l m).f0).isSome]) (wr.alloc o) := fun o => (HT.out.step (below_alloc (Below.refl _ _) o)).look hw
   have HW := am hw
   have HML := am (show m < l.length by omega)
   clear hw c1
   have hwm : wrap64 ((m : Int) + 1) = ((m + 1 : Nat) : Int) := by have := HL.out; have := HML.out; unfold wrap64; omega
   by_cases c2 : (firstIn l m (rd_T48 l m).f0).isSome = true
   ·have hpf : r = false := HH.out.symm.trans (proper_not HML.out (by rw [propTo]; simp [Option.isSome_iff_ne_none.mp c2]))
    subst hpf
    clear hwm
    go_wp2
    go_ret2
    exact ⟨_, rfl, below_alloc HB.out _, fun e => absurd e (by simp)⟩
   have c2b := Bool.eq_false_iff.mpr c2
   have hnone : firstIn l m (rd_T48 l m).f0 = none := Option.isNone_iff_eq_none.mp (by simpa using c2)
   have HF := am hnone
   rw [hnone] at hlk
   clear c2 hnone c2b
   by_cases c3 : (rd_T48 l m).f0 ≤ 32
   ·have hpf : r = false := HH.out.symm.trans (proper_not HML.out (by rw [propTo]; simp [c3]))
    subst hpf
    have c3b : decide ((rd_T48 l m).f0 ≤ 32) = true := decide_eq_true c3
    clear c3 hwm
    go_wp2
    go_ret2
    exact ⟨_, rfl, below_alloc HB.out _, fun e => absurd e (by simp)⟩
   have c3b : decide ((rd_T48 l m).f0 ≤ 32) = false := decide_eq_false c3
   have C3 := am c3
   clear c3
   have AV := am (vr_ok 0 (rd_T48 l m).f0)
   cases c4 : okRune (rd_T48 l m).f0 with
   | false =>
    rw [c4] at AV
    have hpf : r = false := HH.out.symm.trans (proper_not HML.out (by rw [propTo]; simp [c4]))
    subst hpf
    clear c4 hwm
    go_wp2_with (first | (go_at_call 58; refine (utf8_ValidRune.calls 1 (rd_T48 l m).f0 false _ AV.out).mono ?_; rintro e w1 ⟨rfl, hd⟩; have HB1 := am (below_step (below_alloc HB.out _) hd.below); clear HB hd))
    go_ret2
    exact ⟨_, rfl, HB1.out, fun e => absurd e (by simp)⟩
   | true =>
    rw [c4] at AV
    have HP' := am (show propTo l (m + 1) = true by rw [propTo]; simp [HP.out, HF.out, C3.out, c4])
    have HND := am (show n < maxLen by have := HN.out; have := HM.out; have := HL.out; unfold maxLen; omega)
    clear c4
    go_wp2_with (first | (go_at_call 58; refine (utf8_ValidRune.calls 1 (rd_T48 l m).f0 true _ AV.out).mono ?_; rintro e w1 ⟨rfl, hd⟩; have HB1 := am (below_step (below_alloc HB.out _) hd.below); have HT1 := am (HT.out.step (below_step (below_alloc (Below.refl _ _) _) hd.below)); obtain ⟨D, h1, h2, h3, h4, h5⟩ := HT1.out; have hcx : w1.cell? ⟨wr.heap.size, 0, none⟩ = some (.int .i32 (rd_T48 l m).f0) := (blk_cell (blk_below (blk_new wr _) hd.below) 0).trans rfl; clear HB hd) | (at_mapUpdate; refine wpList_mapUpdate_own _ rfl _ _ _ 124 rfl 21 3 keyR Tryz.underlying124 _ w.heap.size n D rfl h1 HND.out _ _ (.int .i32 (rd_T48 l m).f0) rfl rfl (keyR_at HW.out) (.lit (.int .i64 (m : Int))) [] (plainElem_int Tryz.underlying3 (wf_small (by omega) (by have := HM.out; have := HL.out; omega))) ?_; intro w1 hown1 hgrow1; have n1_ := am ((Tb.put h2 h3 h4 h5 HF.out hown1).congr (firstIn_next HML.out HF.out) (m' := distinct l (m + 1)) (by show _ = _ + _; rw [HF.out]; rfl)); have n2_ := am (pw_below_grown HB1.out (some w.heap.size) (below_size HB1.out) hgrow1 (fun k hk => by injection hk with hk; omega)); clear hown1 hgrow1 HB1 hlk h1 h2 h3 h4 h5; have HT := n1_; have HB := n2_; clear n1_ n2_))
    go_roundg k1
    case measure => omega
    case rel => exact ⟨m + 1, n + 1, by rw [hwm], ⟨by have := HN.out; omega⟩, ⟨HML.out⟩, HP', ⟨by have := HK.out; have := HML.out; omega⟩, HT, HB⟩
  have q2b : decide ((m : Int) < (l.length : Int)) = false := decide_eq_false c1
  have : m = l.length := by have := HM.out; omega
  subst this
  have hpe : r = decide ((l.length : Int) ≤ 65) := by rw [← HH.out]; unfold proper; rw [HP.out, Bool.true_and]
  subst hpe
  clear c1
  go_wp2
  go_ret2
  exact ⟨_, rfl, HB.out, fun _ => ⟨_, _, rfl, Nat.le_refl _, HT.out⟩⟩
theorem pattern_over.calls (b n sz : Nat) (f : Int → Option Int) (s : ByteArray) (r : Bool) (w : World) (ht : Tb w b n sz f) (hs : s.size ≤ 1000000000) (hG : Glob w) (h : overOK f s = r) :
  Calls Tryz.prog 79 #[.map (some b), .string s] w fun e w' => ∃ v0_ : Value, e = .returned (.tuple #[v0_, .bool r]) ∧ Kd.R (Kd.int .i64) 3 w' w.heap.size (fun _ => True) v0_ (overL f s) ∧ Below w.heap.size w w' := by
 have HG := am hG
 have HS := am hs
 have HT0 := am ht
 have hvs : utf8_ValidString.f s = some (Lib.validD s.data.toList) := if_pos (by have := HS.out; omega)
 have HV := am hvs
 have HH := am h
 have hf0 : r = false → overL f s = [] := fun e => by unfold overL; rw [if_neg (by rw [HH.out, e]; simp)]
 have HF0 := am hf0
 clear hG hvs hs ht hf0
 unfold overOK at h
 cases hv : Lib.validD s.data.toList with
 | false =>
  rw [hv] at h HV
  obtain rfl : r = false := by simpa using h.symm
  clear h hv
  rw [HF0.out rfl]
  go_enter Tryz.func79, Tryz.ntmps79
  go_wp2_with (first | (go_at_call 76; refine (utf8_ValidString.calls s false _ HG.out HV.out).mono ?_; rintro e w1 ⟨rfl, hb⟩; have HB1 := am hb; clear hb))
  go_ret2
  exact ⟨_, rfl, Kd.R_nil _ _ _ _ _, HB1.out⟩
 | true =>
  rw [hv] at h HV
  rw [Bool.true_and] at h
  have HA0 := am h
  have HE := am (show r = true → overL f s = (rns s).map (fun r => (f r).getD 0) from fun e => by unfold overL; rw [if_pos (by rw [HH.out, e])])
  clear h hv HH
  generalize hov : overL f s = ov at *
  clear hov
  go_enter Tryz.func79, Tryz.ntmps79
  go_wp2_with (first | (go_at_call 76; refine (utf8_ValidString.calls s true _ HG.out HV.out).mono ?_; rintro e w1 ⟨rfl, hb⟩; have HB1 := am hb; clear hb))
  go_loopg [6] (s.size + 1) (fun kq v6 w' => ∃ (pos : Nat) (xs ys : List Int), Aside0 (Left s kq pos xs) ∧ Aside0 (xs.all (fun r => (f r).isSome) = r) ∧ Aside0 (r = true → ys ++ xs.map (fun r => (f r).getD 0) = ov) ∧ Aside0 (w'.heap[w1.heap.size]? = some (.stringIter s pos)) ∧ Aside0 (ys.length ≤ pos) ∧ Aside0 (Kd.R (Kd.int .i64) 3 w' w.heap.size (fun k => k ≠ w1.heap.size) v6 ys) ∧ Aside0 (Below w.heap.size w w'))
  case atStart => exact ⟨0, rns s, [], ⟨left_start s⟩, ⟨HA0.out⟩, ⟨fun e => (HE.out e).symm⟩, ⟨blk_new w1 (.stringIter s 0)⟩, ⟨Nat.le_refl _⟩, ⟨Kd.R_nil _ _ _ _ _⟩, ⟨below_alloc HB1.out (.stringIter s 0)⟩⟩
  case round =>
   obtain ⟨pos, xs, ys, HL, HA, HY, HI, HN, HR, HB⟩ := hrel
   by_cases c1 : pos < s.size
   ·obtain ⟨k1, zs, rfl, rfl, HL1⟩ := left_next HL.out c1
    have hnx : ∀ ty, (Instr.next (.pointer (some ⟨w1.heap.size, 0, none⟩)) true ty).run Tryz.prog wr = _ := fun ty => Lib.run_next_any_at wr w1.heap.size s pos ty HI.out c1
    have HI2 := am (Lib.iterAt_heap wr w1.heap.size s pos (pos + (Utf8.decode s pos).2) HI.out)
    have HB2 := am (Lib.below_iterAt HB.out HB1.out.size s (pos + (Utf8.decode s pos).2))
    have HR2 := am (Kd.R_grown HR.out (grown_iterAt wr w1.heap.size s (pos + (Utf8.decode s pos).2)) (fun k hk e => hk (by injection e)))
    have HT2 := am (HT0.out.step HB2.out)
    have hlk := HT2.out.look (wf_rune s pos)
    have HSZ := am (show w.heap.size ≤ (wr.iterAt w1.heap.size s (pos + (Utf8.decode s pos).2)).heap.size from below_size HB2.out)
    have HSY := am (show w1.heap.size < (wr.iterAt w1.heap.size s (pos + (Utf8.decode s pos).2)).heap.size from (Array.getElem?_eq_some_iff.1 HI2.out).1)
    have HN2 := am (show ys.length + 1 ≤ pos + (Utf8.decode s pos).2 ∧ ys.length < s.size by have := HN.out; have := Lib.decode_width_pos s pos c1; omega)
    have HLL := am HL1
    clear HL1 HI HB HL HR HN
    generalize hd : Utf8.decode s pos = d at *
    obtain ⟨d1, d2⟩ := d
    simp only at HLL HA HY hnx HI2 HB2 HR2 HT2 HN2 HSZ HSY hlk
    clear hd c1
    generalize wr.iterAt w1.heap.size s (pos + d2) = wi at *
    cases hf : f (d1 : Int) with
    | none =>
     rw [hf] at hlk
     obtain rfl : r = false := by
      have := HA.out
      simpa [hf] using this.symm
     obtain rfl : ov = [] := HF0.out rfl
     clear hf
     go_wp2
     go_ret2
     exact ⟨_, rfl, Kd.R_nil _ _ _ _ _, HB2.out⟩
    | some i =>
     rw [hf] at hlk
     have HA' : Aside0 (zs.all (fun r => (f r).isSome) = r) := ⟨by have := HA.out; simpa [hf] using this⟩
     have HY' : Aside0 (r = true → (ys ++ [i]) ++ zs.map (fun r => (f r).getD 0) = ov) := ⟨fun e => by rw [← HY.out e]; simp [hf]⟩
     clear hf HA HY
     go_wp2_with (first | (at_builtin; refine Kd.R_append (Kd.int .i64) (w0 := w) w.heap.size rfl (.tmp 27) (.tmp 29) 145 3 (.int .i64 0) 8 rfl Tryz.underlying145 info3 rfl (by decide) (by omega) _ ys i [.int .i64 i] (fun k => k ≠ w1.heap.size) (fun _ => False) rfl (by first | (go_simp; done) | (go_simp; rfl)) rfl (fun _ hk => hk.elim) (fun k hk => by have := HSY.out; omega) HR2.out HB2.out (by have := HSZ.out; omega) (by have := HS.out; have := HN2.out.2; omega) ?_; intro v1 w2 ho hb hg hat; have n0_ := am ho; have n1_ := am hb; have n2_ := am (blk_grown HI2.out hg (fun e => HR2.out.1 _ e.symm rfl)); clear ho hb hg hat hlk HB2 HR2 HI2; have HB2 := n1_; have HR2 := n0_; have HI2 := n2_; clear n0_ n1_ n2_))
     go_roundg k1
     case measure => omega
     case rel => exact ⟨_, zs, ys ++ [i], HLL, HA', HY', HI2, ⟨by have := HN2.out.1; simpa using this⟩, HR2, HB2⟩
   obtain rfl := left_end HL.out c1
   have hnx : ∀ ty, (Instr.next (.pointer (some ⟨w1.heap.size, 0, none⟩)) true ty).run Tryz.prog wr = _ := fun ty => Lib.run_next_end_at wr w1.heap.size s pos ty HI.out c1
   obtain rfl : r = true := by simpa using HA.out.symm
   obtain rfl : ys = ov := by simpa using HY.out rfl
   clear c1
   go_wp2
   go_ret2
   exact ⟨_, rfl, Kd.R_mono HR.out (fun _ _ => trivial), HB.out⟩
theorem pattern_Valid.calls (A0 : Option Addr) (c0 : Nat) (l : List S48) (A1 : Option Addr) (c1 : Nat) (p : List S91) (r : Bool) (w : World) (hr0 : Kd.C k48 w A0 l.length l) (hc0 : l.length ≤ c0) (hr1 : Kd.C k91 w A1 p.length p) (hc1 : p.length ≤ c1) (hG : Glob w) (h : pattern_Valid.f l p = some r) :
  Calls Tryz.prog 62 #[.slice A0 l.length c0, .slice A1 p.length c1] w fun e w' => e = .returned (.bool r) ∧ Below w.heap.size w w' := by
 unfold pattern_Valid.f at h
 by_cases h1 : (okA l && smallP p) = true
 ·rw [if_pos h1] at h
  have h := Option.some.inj h
  rw [Bool.and_eq_true] at h1
  have HR := am hr0
  have HR1 := am hr1
  have HG := am hG
  have HC := am hc0
  have HO := am h1.1
  have HS := am h1.2
  unfold okP at h
  clear hr0 hr1 hG h1
  cases hp : proper l with
  | false =>
   rw [hp] at h
   obtain rfl : r = false := by simpa using h.symm
   have HP := am hp
   clear h hp
   go_enter Tryz.func62, Tryz.ntmps62
   go_wp2_with (first | (go_at_call 78; refine (pattern_proper.calls A0 c0 l _ HR.out HC.out HO.out false HP.out).mono ?_; rintro e w1 ⟨mp, rfl, hb, _⟩; have HB1 := am hb; clear hb))
   go_ret
   exact ⟨rfl, HB1.out⟩
  | true =>
   rw [hp, Bool.true_and] at h
   have HP := am hp
   clear hp
   by_cases h2 : (p.length : Int) ≤ 3
   ·rw [decide_eq_true h2, Bool.true_and] at h
    have HA0 := am h
    have H2 := am h2
    have h2b : decide (3 < (p.length : Int)) = false := decide_eq_false (by omega)
    clear h h2
    go_enter Tryz.func62, Tryz.ntmps62
    go_wp2_with (first | (go_at_call 78; refine (pattern_proper.calls A0 c0 l _ HR.out HC.out HO.out true HP.out).mono ?_; rintro e w1 ⟨mp, rfl, hb, ht⟩; obtain ⟨b, n, rfl, hbl, ht⟩ := ht rfl; have HB1 := am hb; have HT := am ht; clear hb hbl ht))
    go_loopg [25] (p.length + 1) (fun kq v25 w' => ∃ (m : Nat), v25 = .int .i64 (m : Int) ∧ Aside0 (m ≤ p.length) ∧ Aside0 (p.length - m < kq) ∧ Aside0 ((p.drop m).all (fun x => overOK (firstIn l l.length) x.f1) = r) ∧ Aside0 (Below w1.heap.size w1 w') ∧ Aside0 (Below w.heap.size w w'))
    case atStart => exact ⟨0, (by first | rfl | (simp; done)), ⟨Nat.zero_le _⟩, ⟨by omega⟩, HA0, ⟨Below.refl _ _⟩, HB1⟩
    case round =>
     obtain ⟨m, rfl, HM, HK, HA, HBB, HB⟩ := hrel
     obtain ⟨k1, rfl⟩ : ∃ k1, gk = k1 + 1 := ⟨gk - 1, by have := HK.out; omega⟩
     by_cases c1 : (m : Int) < (p.length : Int)
     ·have HRr := am (Kd.C_below HR1.out HB.out)
      obtain ⟨ad2, ead2, hx0, hx1, hx2, hx3⟩ := at_T91 HRr.out (m : Int) (by omega) c1
      subst ead2
      rw [Int.toNat_natCast] at hx0 hx1 hx2 hx3
      have p1 : (0 ≤ (m : Int)) = True := eq_true (by omega)
      have q2 : ((m : Int) < (p.length : Int)) = True := eq_true c1
      have q2b : decide ((m : Int) < (p.length : Int)) = true := decide_eq_true c1
      have HML := am (show m < p.length by omega)
      have hxe : p[m]'(HML.out) = rd_T91 p (m : Int) := by simp [rd_T91, List.getD, List.getElem?_eq_getElem HML.out]
      have HSZ := am (show (rd_T91 p (m : Int)).f1.size ≤ 1000000000 by
       have := List.all_eq_true.mp HS.out p[m] (List.getElem_mem HML.out)
       rw [hxe] at this
       simpa using this)
      have hA := HA.out
      rw [List.drop_eq_getElem_cons HML.out, List.all_cons, hxe] at hA
      have hwm : wrap64 ((m : Int) + 1) = (m : Int) + 1 := by have := H2.out; have := HML.out; unfold wrap64; omega
      clear c1 hxe HA
      generalize hov : overOK (firstIn l l.length) (rd_T91 p (m : Int)).f1 = ov at hA
      have HOV := am hov
      clear hov
      cases ov with
      | false =>
       obtain rfl : r = false := by simpa using hA.symm
       clear hA hwm
       go_wp2_with (first | (go_at_call 79; refine (pattern_over.calls _ _ _ _ _ false _ (HT.out.step (below_alloc HBB.out _)) HSZ.out (HG.out.below (below_alloc HB.out _)) HOV.out).mono ?_; rintro e w2 ⟨v0, rfl, _, hbel⟩; have HB2 := am (below_step (below_alloc HB.out _) hbel); clear hbel))
       go_ret
       exact ⟨rfl, HB2.out⟩
      | true =>
       rw [Bool.true_and] at hA
       have HA' := am hA
       clear hA
       go_wp2_with (first | (go_at_call 79; refine (pattern_over.calls _ _ _ _ _ true _ (HT.out.step (below_alloc HBB.out _)) HSZ.out (HG.out.below (below_alloc HB.out _)) HOV.out).mono ?_; rintro e w2 ⟨v0, rfl, _, hbel⟩; have HB2 := am (below_step (below_alloc HB.out _) hbel); have HBB2 := am (below_step (below_alloc HBB.out _) hbel); clear hbel))
       go_roundg k1
       case measure => omega
       case rel => exact ⟨m + 1, by first | rfl | (rw [hwm]; rfl), ⟨HML.out⟩, ⟨by have := HK.out; have := HML.out; omega⟩, HA', HBB2, HB2⟩
     have q2b : decide ((m : Int) < (p.length : Int)) = false := decide_eq_false c1
     obtain rfl : r = true := by
      have := HA.out
      rw [← this, List.drop_eq_nil_of_le (by omega)]
      rfl
     obtain rfl : m = p.length := by have := HM.out; omega
     clear c1
     go_wp2
     go_ret
     exact ⟨rfl, HB.out⟩
   rw [decide_eq_false h2, Bool.false_and] at h
   subst h
   have h2b : decide (3 < (p.length : Int)) = true := decide_eq_true (by omega)
   clear h2
   go_enter Tryz.func62, Tryz.ntmps62
   go_wp2_with (first | (go_at_call 78; refine (pattern_proper.calls A0 c0 l _ HR.out HC.out HO.out true HP.out).mono ?_; rintro e w1 ⟨mp, rfl, hb, ht⟩; obtain ⟨b, n, rfl, hbl, ht⟩ := ht rfl; have HB1 := am hb; clear hb hbl ht))
   go_ret
   exact ⟨rfl, HB1.out⟩
 rw [if_neg h1] at h
 exact absurd h (by simp)
theorem rewrite_Valid.calls (k : Nat) (A0 : Option Addr) (c0 : Nat) (l : List S48) (fr : Int) (tw : ByteArray) (A2 : Option Addr) (c2 : Nat) (le : List S91) (A3 : Option Addr) (c3 : Nat) (ri : List S91) (ini fin : Bool) (r : Bool) (w : World) (hr0 : Kd.C k48 w A0 l.length l) (hc0 : l.length ≤ c0) (hr2 : Kd.C k91 w A2 le.length le) (hc2 : le.length ≤ c2) (hr3 : Kd.C k91 w A3 ri.length ri) (hc3 : ri.length ≤ c3) (hG : Glob w) (h : rewrite_Valid.f k l fr tw le ri ini fin = some r) :
  Calls Tryz.prog 32 #[.slice A0 l.length c0, .agg #[.int .i32 fr, .string tw, .slice A2 le.length c2, .slice A3 ri.length c3, .bool ini, .bool fin]] w fun e w' => e = .returned (.bool r) ∧ Below w.heap.size w w' := by
 unfold rewrite_Valid.f at h
 by_cases h1 : (okS l tw && (smallP le && smallP ri)) = true
 ·rw [if_pos h1, ] at h
  rw [Bool.and_eq_true, Bool.and_eq_true] at h1
  have HR := am hr0
  have HC := am hc0
  have HR2 := am hr2
  have HC2 := am hc2
  have HR3 := am hr3
  have HC3 := am hc3
  have HG := am hG
  have HO := am (okS_at h1.1)
  have HOA := am (show okA l = true by unfold okA; simp [HO.out.1.1, HO.out.1.2])
  have HP2 := am h1.2.1
  have HP3 := am h1.2.2
  clear hr0 hc0 hr2 hc2 hr3 hc3 hG h1
  obtain ⟨t, A, h⟩ := Option.bind_eq_some_iff.mp h
  have AV := am A
  clear A
  cases t with
  | false =>
   obtain rfl : r = false := by simpa using h.symm
   clear h
   go_enter Tryz.func32, Tryz.ntmps32
   go_wp2_with (first | (go_at_call 52; refine (rewrite_letters_admissible.calls k A0 c0 l false _ (Kd.C_below HR.out (below_alloc (Below.refl _ _) _)) HC.out AV.out).mono ?_; rintro e w1 ⟨rfl, hb⟩; have HB1 := am (below_step (below_alloc (Below.refl _ _) _) hb); have BX1 := am (blk_below (blk_new w _) hb); have hxw10 : w1.cell? ⟨w.heap.size, 0, none⟩ = some (.int .i32 fr) := (blk_cell BX1.out 0).trans rfl; have hxw11 : w1.cell? ⟨w.heap.size, 1, none⟩ = some (.string tw) := (blk_cell BX1.out 1).trans rfl; have hxw12 : w1.cell? ⟨w.heap.size, 2, none⟩ = some (.slice A2 le.length c2) := (blk_cell BX1.out 2).trans rfl; have hxw13 : w1.cell? ⟨w.heap.size, 3, none⟩ = some (.slice A3 ri.length c3) := (blk_cell BX1.out 3).trans rfl; clear hb))
   go_ret
   exact ⟨rfl, HB1.out⟩
  | true =>
   have h := (Option.some.inj ((if_pos rfl).symm.trans h)).symm
   unfold rewrite_Valid.g at h
   by_cases h0 : fr = 0
   ·have hf0 : (fr == 0) = true := beq_iff_eq.mpr h0
    have hf1 : (fr != 0) = false := bne_eq_false_iff_eq.mpr h0
    have hf2 : decide (fr = 0) = true := decide_eq_true h0
    rw [hf0, Bool.true_or, Bool.true_and] at h
    clear h0
    cases hcn : consOK l 4 tw with
    | false =>
     rw [hcn] at h
     obtain rfl : r = false := by simpa using h
     have HCN := am hcn
     clear h hcn
     go_enter Tryz.func32, Tryz.ntmps32
     go_wp2_with (first | (go_at_call 52; refine (rewrite_letters_admissible.calls k A0 c0 l true _ (Kd.C_below HR.out (below_alloc (Below.refl _ _) _)) HC.out AV.out).mono ?_; rintro e w1 ⟨rfl, hb⟩; have HB1 := am (below_step (below_alloc (Below.refl _ _) _) hb); have BX1 := am (blk_below (blk_new w _) hb); have hxw10 : w1.cell? ⟨w.heap.size, 0, none⟩ = some (.int .i32 fr) := (blk_cell BX1.out 0).trans rfl; have hxw11 : w1.cell? ⟨w.heap.size, 1, none⟩ = some (.string tw) := (blk_cell BX1.out 1).trans rfl; have hxw12 : w1.cell? ⟨w.heap.size, 2, none⟩ = some (.slice A2 le.length c2) := (blk_cell BX1.out 2).trans rfl; have hxw13 : w1.cell? ⟨w.heap.size, 3, none⟩ = some (.slice A3 ri.length c3) := (blk_cell BX1.out 3).trans rfl; clear hb) | (go_at_call 61; refine (rewrite_consists.calls A0 c0 l 4 tw false _ (Kd.C_below HR.out HB1.out) HC.out HO.out.1.2 HO.out.2 (by decide) (HG.out.below HB1.out) HCN.out).mono ?_; rintro e w2 ⟨rfl, hb⟩; have HB2 := am (below_step HB1.out hb); have BX2 := am (blk_below BX1.out hb); have hxw22 : w2.cell? ⟨w.heap.size, 2, none⟩ = some (.slice A2 le.length c2) := (blk_cell BX2.out 2).trans rfl; have hxw23 : w2.cell? ⟨w.heap.size, 3, none⟩ = some (.slice A3 ri.length c3) := (blk_cell BX2.out 3).trans rfl; clear hb))
     go_ret
     exact ⟨rfl, HB2.out⟩
    | true =>
     rw [hcn, Bool.true_and] at h
     have HCN := am hcn
     clear hcn
     cases hv2 : okP l le with
     | false =>
      rw [hv2] at h
      obtain rfl : r = false := by simpa using h
      have HV2 := am hv2
      clear h hv2
      go_enter Tryz.func32, Tryz.ntmps32
      go_wp2_with (first | (go_at_call 52; refine (rewrite_letters_admissible.calls k A0 c0 l true _ (Kd.C_below HR.out (below_alloc (Below.refl _ _) _)) HC.out AV.out).mono ?_; rintro e w1 ⟨rfl, hb⟩; have HB1 := am (below_step (below_alloc (Below.refl _ _) _) hb); have BX1 := am (blk_below (blk_new w _) hb); have hxw10 : w1.cell? ⟨w.heap.size, 0, none⟩ = some (.int .i32 fr) := (blk_cell BX1.out 0).trans rfl; have hxw11 : w1.cell? ⟨w.heap.size, 1, none⟩ = some (.string tw) := (blk_cell BX1.out 1).trans rfl; have hxw12 : w1.cell? ⟨w.heap.size, 2, none⟩ = some (.slice A2 le.length c2) := (blk_cell BX1.out 2).trans rfl; have hxw13 : w1.cell? ⟨w.heap.size, 3, none⟩ = some (.slice A3 ri.length c3) := (blk_cell BX1.out 3).trans rfl; clear hb) | (go_at_call 61; refine (rewrite_consists.calls A0 c0 l 4 tw true _ (Kd.C_below HR.out HB1.out) HC.out HO.out.1.2 HO.out.2 (by decide) (HG.out.below HB1.out) HCN.out).mono ?_; rintro e w2 ⟨rfl, hb⟩; have HB2 := am (below_step HB1.out hb); have BX2 := am (blk_below BX1.out hb); have hxw22 : w2.cell? ⟨w.heap.size, 2, none⟩ = some (.slice A2 le.length c2) := (blk_cell BX2.out 2).trans rfl; have hxw23 : w2.cell? ⟨w.heap.size, 3, none⟩ = some (.slice A3 ri.length c3) := (blk_cell BX2.out 3).trans rfl; clear hb) | (go_at_call 62; refine (pattern_Valid.calls A0 c0 l A2 c2 le false _ (Kd.C_below HR.out HB2.out) HC.out (Kd.C_below HR2.out HB2.out) HC2.out (HG.out.below HB2.out) (by unfold pattern_Valid.f; rw [if_pos (by rw [HOA.out, HP2.out]; rfl), HV2.out])).mono ?_; rintro e w3 ⟨rfl, hb⟩; have HB3 := am (below_step HB2.out hb); have BX3 := am (blk_below BX2.out hb); have hxw33 : w3.cell? ⟨w.heap.size, 3, none⟩ = some (.slice A3 ri.length c3) := (blk_cell BX3.out 3).trans rfl; clear hb))
      go_ret
      exact ⟨rfl, HB3.out⟩
     | true =>
      rw [hv2, Bool.true_and] at h
      have HV2 := am hv2
      have HV3 := am h.symm
      clear h hv2
      go_enter Tryz.func32, Tryz.ntmps32
      go_wp2_with (first | (go_at_call 52; refine (rewrite_letters_admissible.calls k A0 c0 l true _ (Kd.C_below HR.out (below_alloc (Below.refl _ _) _)) HC.out AV.out).mono ?_; rintro e w1 ⟨rfl, hb⟩; have HB1 := am (below_step (below_alloc (Below.refl _ _) _) hb); have BX1 := am (blk_below (blk_new w _) hb); have hxw10 : w1.cell? ⟨w.heap.size, 0, none⟩ = some (.int .i32 fr) := (blk_cell BX1.out 0).trans rfl; have hxw11 : w1.cell? ⟨w.heap.size, 1, none⟩ = some (.string tw) := (blk_cell BX1.out 1).trans rfl; have hxw12 : w1.cell? ⟨w.heap.size, 2, none⟩ = some (.slice A2 le.length c2) := (blk_cell BX1.out 2).trans rfl; have hxw13 : w1.cell? ⟨w.heap.size, 3, none⟩ = some (.slice A3 ri.length c3) := (blk_cell BX1.out 3).trans rfl; clear hb) | (go_at_call 61; refine (rewrite_consists.calls A0 c0 l 4 tw true _ (Kd.C_below HR.out HB1.out) HC.out HO.out.1.2 HO.out.2 (by decide) (HG.out.below HB1.out) HCN.out).mono ?_; rintro e w2 ⟨rfl, hb⟩; have HB2 := am (below_step HB1.out hb); have BX2 := am (blk_below BX1.out hb); have hxw22 : w2.cell? ⟨w.heap.size, 2, none⟩ = some (.slice A2 le.length c2) := (blk_cell BX2.out 2).trans rfl; have hxw23 : w2.cell? ⟨w.heap.size, 3, none⟩ = some (.slice A3 ri.length c3) := (blk_cell BX2.out 3).trans rfl; clear hb) | (go_at_call 62; refine (pattern_Valid.calls A0 c0 l A2 c2 le true _ (Kd.C_below HR.out HB2.out) HC.out (Kd.C_below HR2.out HB2.out) HC2.out (HG.out.below HB2.out) (by unfold pattern_Valid.f; rw [if_pos (by rw [HOA.out, HP2.out]; rfl), HV2.out])).mono ?_; rintro e w3 ⟨rfl, hb⟩; have HB3 := am (below_step HB2.out hb); have BX3 := am (blk_below BX2.out hb); have hxw33 : w3.cell? ⟨w.heap.size, 3, none⟩ = some (.slice A3 ri.length c3) := (blk_cell BX3.out 3).trans rfl; clear hb; clear HB2) | (go_at_call 62; refine (pattern_Valid.calls A0 c0 l A3 c3 ri r _ (Kd.C_below HR.out HB3.out) HC.out (Kd.C_below HR3.out HB3.out) HC3.out (HG.out.below HB3.out) (by unfold pattern_Valid.f; rw [if_pos (by rw [HOA.out, HP3.out]; rfl), HV3.out])).mono ?_; rintro e w4 ⟨rfl, hb⟩; have HB4 := am (below_step HB3.out hb); have BX4 := am (blk_below BX3.out hb); have hxw43 : w4.cell? ⟨w.heap.size, 3, none⟩ = some (.slice A3 ri.length c3) := (blk_cell BX4.out 3).trans rfl; clear hb))
      go_ret
      exact ⟨rfl, HB4.out⟩
   have hf0 : (fr == 0) = false := beq_eq_false_iff_ne.mpr h0
   have hf1 : (fr != 0) = true := bne_iff_ne.mpr h0
   have hf2 : decide (fr = 0) = false := decide_eq_false h0
   rw [hf0, Bool.false_or] at h
   have HAS := am (has_ok l fr (by have := HO.out.1.2; omega))
   clear h0
   cases hh : hasL l fr with
   | false =>
    rw [hh] at h HAS
    obtain rfl : r = false := by simpa using h
    clear h hh
    go_enter Tryz.func32, Tryz.ntmps32
    go_wp2_with (first | (go_at_call 52; refine (rewrite_letters_admissible.calls k A0 c0 l true _ (Kd.C_below HR.out (below_alloc (Below.refl _ _) _)) HC.out AV.out).mono ?_; rintro e w1 ⟨rfl, hb⟩; have HB1 := am (below_step (below_alloc (Below.refl _ _) _) hb); have BX1 := am (blk_below (blk_new w _) hb); have hxw10 : w1.cell? ⟨w.heap.size, 0, none⟩ = some (.int .i32 fr) := (blk_cell BX1.out 0).trans rfl; have hxw11 : w1.cell? ⟨w.heap.size, 1, none⟩ = some (.string tw) := (blk_cell BX1.out 1).trans rfl; have hxw12 : w1.cell? ⟨w.heap.size, 2, none⟩ = some (.slice A2 le.length c2) := (blk_cell BX1.out 2).trans rfl; have hxw13 : w1.cell? ⟨w.heap.size, 3, none⟩ = some (.slice A3 ri.length c3) := (blk_cell BX1.out 3).trans rfl; clear hb) | (go_at_call 60; refine (rewrite_letters_has.calls _ A0 c0 l fr false _ (Kd.C_below HR.out HB1.out) HC.out HAS.out).mono ?_; rintro e w2 ⟨rfl, hb⟩; have HB2 := am (below_step HB1.out hb); have BX2 := am (blk_below BX1.out hb); have hxw20 : w2.cell? ⟨w.heap.size, 0, none⟩ = some (.int .i32 fr) := (blk_cell BX2.out 0).trans rfl; have hxw21 : w2.cell? ⟨w.heap.size, 1, none⟩ = some (.string tw) := (blk_cell BX2.out 1).trans rfl; have hxw22 : w2.cell? ⟨w.heap.size, 2, none⟩ = some (.slice A2 le.length c2) := (blk_cell BX2.out 2).trans rfl; have hxw23 : w2.cell? ⟨w.heap.size, 3, none⟩ = some (.slice A3 ri.length c3) := (blk_cell BX2.out 3).trans rfl; clear hb))
    go_ret
    exact ⟨rfl, HB2.out⟩
   | true =>
    rw [hh, Bool.true_and] at h
    rw [hh] at HAS
    clear hh
    cases hcn : consOK l 4 tw with
    | false =>
     rw [hcn] at h
     obtain rfl : r = false := by simpa using h
     have HCN := am hcn
     clear h hcn
     go_enter Tryz.func32, Tryz.ntmps32
     go_wp2_with (first | (go_at_call 52; refine (rewrite_letters_admissible.calls k A0 c0 l true _ (Kd.C_below HR.out (below_alloc (Below.refl _ _) _)) HC.out AV.out).mono ?_; rintro e w1 ⟨rfl, hb⟩; have HB1 := am (below_step (below_alloc (Below.refl _ _) _) hb); have BX1 := am (blk_below (blk_new w _) hb); have hxw10 : w1.cell? ⟨w.heap.size, 0, none⟩ = some (.int .i32 fr) := (blk_cell BX1.out 0).trans rfl; have hxw11 : w1.cell? ⟨w.heap.size, 1, none⟩ = some (.string tw) := (blk_cell BX1.out 1).trans rfl; have hxw12 : w1.cell? ⟨w.heap.size, 2, none⟩ = some (.slice A2 le.length c2) := (blk_cell BX1.out 2).trans rfl; have hxw13 : w1.cell? ⟨w.heap.size, 3, none⟩ = some (.slice A3 ri.length c3) := (blk_cell BX1.out 3).trans rfl; clear hb) | (go_at_call 60; refine (rewrite_letters_has.calls _ A0 c0 l fr true _ (Kd.C_below HR.out HB1.out) HC.out HAS.out).mono ?_; rintro e w2 ⟨rfl, hb⟩; have HB2 := am (below_step HB1.out hb); have BX2 := am (blk_below BX1.out hb); have hxw20 : w2.cell? ⟨w.heap.size, 0, none⟩ = some (.int .i32 fr) := (blk_cell BX2.out 0).trans rfl; have hxw21 : w2.cell? ⟨w.heap.size, 1, none⟩ = some (.string tw) := (blk_cell BX2.out 1).trans rfl; have hxw22 : w2.cell? ⟨w.heap.size, 2, none⟩ = some (.slice A2 le.length c2) := (blk_cell BX2.out 2).trans rfl; have hxw23 : w2.cell? ⟨w.heap.size, 3, none⟩ = some (.slice A3 ri.length c3) := (blk_cell BX2.out 3).trans rfl; clear hb) | (go_at_call 61; refine (rewrite_consists.calls A0 c0 l 4 tw false _ (Kd.C_below HR.out HB2.out) HC.out HO.out.1.2 HO.out.2 (by decide) (HG.out.below HB2.out) HCN.out).mono ?_; rintro e w3 ⟨rfl, hb⟩; have HB3 := am (below_step HB2.out hb); have BX3 := am (blk_below BX2.out hb); have hxw32 : w3.cell? ⟨w.heap.size, 2, none⟩ = some (.slice A2 le.length c2) := (blk_cell BX3.out 2).trans rfl; have hxw33 : w3.cell? ⟨w.heap.size, 3, none⟩ = some (.slice A3 ri.length c3) := (blk_cell BX3.out 3).trans rfl; clear hb))
     go_ret
     exact ⟨rfl, HB3.out⟩
    | true =>
     rw [hcn, Bool.true_and] at h
     have HCN := am hcn
     clear hcn
     cases hv2 : okP l le with
     | false =>
      rw [hv2] at h
      obtain rfl : r = false := by simpa using h
      have HV2 := am hv2
      clear h hv2
      go_enter Tryz.func32, Tryz.ntmps32
      go_wp2_with (first | (go_at_call 52; refine (rewrite_letters_admissible.calls k A0 c0 l true _ (Kd.C_below HR.out (below_alloc (Below.refl _ _) _)) HC.out AV.out).mono ?_; rintro e w1 ⟨rfl, hb⟩; have HB1 := am (below_step (below_alloc (Below.refl _ _) _) hb); have BX1 := am (blk_below (blk_new w _) hb); have hxw10 : w1.cell? ⟨w.heap.size, 0, none⟩ = some (.int .i32 fr) := (blk_cell BX1.out 0).trans rfl; have hxw11 : w1.cell? ⟨w.heap.size, 1, none⟩ = some (.string tw) := (blk_cell BX1.out 1).trans rfl; have hxw12 : w1.cell? ⟨w.heap.size, 2, none⟩ = some (.slice A2 le.length c2) := (blk_cell BX1.out 2).trans rfl; have hxw13 : w1.cell? ⟨w.heap.size, 3, none⟩ = some (.slice A3 ri.length c3) := (blk_cell BX1.out 3).trans rfl; clear hb) | (go_at_call 60; refine (rewrite_letters_has.calls _ A0 c0 l fr true _ (Kd.C_below HR.out HB1.out) HC.out HAS.out).mono ?_; rintro e w2 ⟨rfl, hb⟩; have HB2 := am (below_step HB1.out hb); have BX2 := am (blk_below BX1.out hb); have hxw20 : w2.cell? ⟨w.heap.size, 0, none⟩ = some (.int .i32 fr) := (blk_cell BX2.out 0).trans rfl; have hxw21 : w2.cell? ⟨w.heap.size, 1, none⟩ = some (.string tw) := (blk_cell BX2.out 1).trans rfl; have hxw22 : w2.cell? ⟨w.heap.size, 2, none⟩ = some (.slice A2 le.length c2) := (blk_cell BX2.out 2).trans rfl; have hxw23 : w2.cell? ⟨w.heap.size, 3, none⟩ = some (.slice A3 ri.length c3) := (blk_cell BX2.out 3).trans rfl; clear hb) | (go_at_call 61; refine (rewrite_consists.calls A0 c0 l 4 tw true _ (Kd.C_below HR.out HB2.out) HC.out HO.out.1.2 HO.out.2 (by decide) (HG.out.below HB2.out) HCN.out).mono ?_; rintro e w3 ⟨rfl, hb⟩; have HB3 := am (below_step HB2.out hb); have BX3 := am (blk_below BX2.out hb); have hxw32 : w3.cell? ⟨w.heap.size, 2, none⟩ = some (.slice A2 le.length c2) := (blk_cell BX3.out 2).trans rfl; have hxw33 : w3.cell? ⟨w.heap.size, 3, none⟩ = some (.slice A3 ri.length c3) := (blk_cell BX3.out 3).trans rfl; clear hb) | (go_at_call 62; refine (pattern_Valid.calls A0 c0 l A2 c2 le false _ (Kd.C_below HR.out HB3.out) HC.out (Kd.C_below HR2.out HB3.out) HC2.out (HG.out.below HB3.out) (by unfold pattern_Valid.f; rw [if_pos (by rw [HOA.out, HP2.out]; rfl), HV2.out])).mono ?_; rintro e w4 ⟨rfl, hb⟩; have HB4 := am (below_step HB3.out hb); have BX4 := am (blk_below BX3.out hb); have hxw43 : w4.cell? ⟨w.heap.size, 3, none⟩ = some (.slice A3 ri.length c3) := (blk_cell BX4.out 3).trans rfl; clear hb))
      go_ret
      exact ⟨rfl, HB4.out⟩
     | true =>
      rw [hv2, Bool.true_and] at h
      have HV2 := am hv2
      have HV3 := am h.symm
      clear h hv2
      go_enter Tryz.func32, Tryz.ntmps32
      go_wp2_with (first | (go_at_call 52; refine (rewrite_letters_admissible.calls k A0 c0 l true _ (Kd.C_below HR.out (below_alloc (Below.refl _ _) _)) HC.out AV.out).mono ?_; rintro e w1 ⟨rfl, hb⟩; have HB1 := am (below_step (below_alloc (Below.refl _ _) _) hb); have BX1 := am (blk_below (blk_new w _) hb); have hxw10 : w1.cell? ⟨w.heap.size, 0, none⟩ = some (.int .i32 fr) := (blk_cell BX1.out 0).trans rfl; have hxw11 : w1.cell? ⟨w.heap.size, 1, none⟩ = some (.string tw) := (blk_cell BX1.out 1).trans rfl; have hxw12 : w1.cell? ⟨w.heap.size, 2, none⟩ = some (.slice A2 le.length c2) := (blk_cell BX1.out 2).trans rfl; have hxw13 : w1.cell? ⟨w.heap.size, 3, none⟩ = some (.slice A3 ri.length c3) := (blk_cell BX1.out 3).trans rfl; clear hb) | (go_at_call 60; refine (rewrite_letters_has.calls _ A0 c0 l fr true _ (Kd.C_below HR.out HB1.out) HC.out HAS.out).mono ?_; rintro e w2 ⟨rfl, hb⟩; have HB2 := am (below_step HB1.out hb); have BX2 := am (blk_below BX1.out hb); have hxw20 : w2.cell? ⟨w.heap.size, 0, none⟩ = some (.int .i32 fr) := (blk_cell BX2.out 0).trans rfl; have hxw21 : w2.cell? ⟨w.heap.size, 1, none⟩ = some (.string tw) := (blk_cell BX2.out 1).trans rfl; have hxw22 : w2.cell? ⟨w.heap.size, 2, none⟩ = some (.slice A2 le.length c2) := (blk_cell BX2.out 2).trans rfl; have hxw23 : w2.cell? ⟨w.heap.size, 3, none⟩ = some (.slice A3 ri.length c3) := (blk_cell BX2.out 3).trans rfl; clear hb) | (go_at_call 61; refine (rewrite_consists.calls A0 c0 l 4 tw true _ (Kd.C_below HR.out HB2.out) HC.out HO.out.1.2 HO.out.2 (by decide) (HG.out.below HB2.out) HCN.out).mono ?_; rintro e w3 ⟨rfl, hb⟩; have HB3 := am (below_step HB2.out hb); have BX3 := am (blk_below BX2.out hb); have hxw32 : w3.cell? ⟨w.heap.size, 2, none⟩ = some (.slice A2 le.length c2) := (blk_cell BX3.out 2).trans rfl; have hxw33 : w3.cell? ⟨w.heap.size, 3, none⟩ = some (.slice A3 ri.length c3) := (blk_cell BX3.out 3).trans rfl; clear hb) | (go_at_call 62; refine (pattern_Valid.calls A0 c0 l A2 c2 le true _ (Kd.C_below HR.out HB3.out) HC.out (Kd.C_below HR2.out HB3.out) HC2.out (HG.out.below HB3.out) (by unfold pattern_Valid.f; rw [if_pos (by rw [HOA.out, HP2.out]; rfl), HV2.out])).mono ?_; rintro e w4 ⟨rfl, hb⟩; have HB4 := am (below_step HB3.out hb); have BX4 := am (blk_below BX3.out hb); have hxw43 : w4.cell? ⟨w.heap.size, 3, none⟩ = some (.slice A3 ri.length c3) := (blk_cell BX4.out 3).trans rfl; clear hb; clear HB3) | (go_at_call 62; refine (pattern_Valid.calls A0 c0 l A3 c3 ri r _ (Kd.C_below HR.out HB4.out) HC.out (Kd.C_below HR3.out HB4.out) HC3.out (HG.out.below HB4.out) (by unfold pattern_Valid.f; rw [if_pos (by rw [HOA.out, HP3.out]; rfl), HV3.out])).mono ?_; rintro e w5 ⟨rfl, hb⟩; have HB5 := am (below_step HB4.out hb); have BX5 := am (blk_below BX4.out hb); have hxw53 : w5.cell? ⟨w.heap.size, 3, none⟩ = some (.slice A3 ri.length c3) := (blk_cell BX5.out 3).trans rfl; clear hb))
      go_ret
      exact ⟨rfl, HB5.out⟩
 rw [if_neg h1] at h
 exact absurd h (by simp)
end Go.Proofs.YtcoialpohgfikaaGreatDoor.C
