/- A part of the proof of TopForms, made short by a program. -/
import Derived.Test.YtcoialpohgfikaaGreatDoorM2
import Derived.Test.YtcoialpohgfikaaGreatDoorM3
import Derived.Test.YtcoialpohgfikaaGreatDoorM6
import Derived.Test.YtcoialpohgfikaaGreatDoorM8
import Derived.Test.YtcoialpohgfikaaGreatDoorM4
namespace Go.Proofs.YtcoialpohgfikaaGreatDoor.C
open Go.RowKit Go.Proofs.YtcoialpohgfikaaGreatDoorW.PrintWords Go.Proofs.YtcoialpohgfikaaGreatDoorW.PrintLast Go.Proofs.YtcoialpohgfikaaGreatDoorW.PrintMore
attribute [local go_sem] max2_int min2_int max_two min_two max_three min_three max_four min_four
set_option linter.unusedVariables false
set_option maxHeartbeats 8000000
set_option maxRecDepth 100000
set_option linter.unusedSimpArgs false
def rewrite_Trace.T13 : Bool × List (List Nat × List Nat) := (true, [([], []), ([], []), ([], []), ([], []), ([3], [3]), ([4], [4]), ([2, 5], [2, 5]), ([6], [6]), ([0, 1, 7], [0, 1, 7]), ([8], [8]), ([9], [9]), ([9], [9]), ([10, 8, 0, 1, 2, 3, 4, 5, 6, 7, 8, 9, 10], [10]), ([11, 12, 0, 1, 2, 3, 4, 5, 6, 7, 8, 9, 10, 11, 12], [11])])
def rewrite_Trace.B13 : List Nat := [0, 0, 0, 0, 8, 24, 60, 124, 255, 511, 1023, 1023, 2047, 8191]
theorem rewrite_Trace.tab13 : rtab .any (opsOf Tryz.f28 13) = rewrite_Trace.T13 := by kernel_rfl
theorem rewrite_Trace.bits13 : waitsOk rewrite_Trace.T13.2 rewrite_Trace.B13 = true := by kernel_rfl
theorem rewrite_Trace.calls (k : Nat) (A0 : Option Addr) (c0 : Nat) (l0 : List (S48)) (A1 : Option Addr) (c1 : Nat) (l1 : List (S89)) (a2 : ByteArray) (r1 : List ByteArray) (r2 : Int) (w : World) (hr0 : Kd.C k48 w A0 l0.length l0) (hc0 : l0.length ≤ c0) (hr1 : Kd.C k89 w A1 l1.length l1) (hc1 : l1.length ≤ c1) (hG : Glob w) (h : rewrite_Trace.f k l0 l1 a2 = some (r1, r2)) :
  Calls Tryz.prog 28 #[.slice A0 l0.length c0, .slice A1 l1.length c1, .string a2] w fun e w' => ∃ v0_ : Value, e = .returned (.tuple #[v0_, .int .i64 r2]) ∧ Kd.R Kd.string 9 w' w.heap.size (fun _ => True) v0_ r1 ∧ Below w.heap.size w w' := by
 have HG := am hG
 clear hG
 have hu89 := Tryz.underlying89
 have HR0 := am hr0
 have HC0 := am hc0
 clear hr0 hc0
 have HR1 := am hr1
 have HC1 := am hc1
 clear hr1 hc1
 have HB := am (Below.refl w.heap.size w)
 have H : (if (l1.length : Int) > 64 then (rewrite_Trace.j0 k l0 l1 a2 true) else ((rewrite_letters_admissible.f k l0).bind fun t270 => (if t270 = true then ((rewrite_letters_isWord.f l0 a2).bind fun t271 => (rewrite_Trace.j0 k l0 l1 a2 (!t271))) else (rewrite_Trace.j0 k l0 l1 a2 true)))) = some (r1, r2) := h
 clear h
 have HC4 := am H
 clear H
 go_enter Tryz.func28, Tryz.ntmps28
 go_upto_region 1 with (fail)
 go_cut [28] (fun v28 wc => ∃ (kq : Nat) (x28_3 : Bool), v28 = .bool x28_3 ∧ Aside0 (rewrite_Trace.j0 kq l0 l1 a2 x28_3 = some (r1, r2)) ∧ Aside0 (kq ≤ k) ∧ Aside0 (Below w.heap.size w wc))
 case first =>
  have H := HC4.out
  clear HC4
  by_cases c5 : (l1.length : Int) > 64
  ·rw [if_pos c5] at H
   have c5b0 : decide (64 < (l1.length : Int)) = true := decide_eq_true c5
   have c5b1 : decide (64 < l1.length) = true := decide_eq_true (by omega)
   clear c5
   (first | rw [c5b0] | (simp only [i64_w, i32_w]; rw [c5b0]) | skip)
   have H' := am H
   clear H
   go_wp2
   go_meet
   case rel => exact ⟨_, (true), rq, H', ⟨by first | omega | exact Nat.le_refl _⟩, ⟨bq⟩⟩
  rw [if_neg c5] at H
  have c5b0 : decide (64 < (l1.length : Int)) = false := decide_eq_false c5
  have c5b1 : decide (64 < l1.length) = false := decide_eq_false (by omega)
  clear c5
  (first | rw [c5b0] | (simp only [i64_w, i32_w]; rw [c5b0]) | skip)
  replace H := Option.bind_eq_some_iff.mp H
  obtain ⟨t270, A60, H⟩ := H
  (try dsimp only at H)
  have A6 := am A60
  clear A60
  by_cases c7 : t270 = true
  ·subst c7
   rw [if_pos rfl] at H
   replace H := Option.bind_eq_some_iff.mp H
   obtain ⟨t271, A80, H⟩ := H
   (try dsimp only at H)
   have A8 := am A80
   clear A80
   have H' := am H
   clear H
   go_wp2_with (first | (go_at_call 52; (with_reducible refine (rewrite_letters_admissible.calls k _ _ l0 true _ (cq HR0) HC0.out A6.out).mono ?_); rintro e w9 ⟨rfl, hb⟩; replace HB := bs hb; (try clear hb)) | (go_at_call 53; (with_reducible refine (rewrite_letters_isWord.calls _ _ l0 a2 t271 _ (cq HR0) HC0.out (Glob.below HG.out bq) A8.out).mono ?_); rintro e w10 ⟨rfl, hb⟩; replace HB := bs hb; (try clear hb)))
   go_meet
   case rel => exact ⟨_, (!t271), rq, H', ⟨by first | omega | exact Nat.le_refl _⟩, ⟨bq⟩⟩
  replace c7 := Bool.eq_false_iff.mpr c7
  subst c7
  rw [if_neg nf] at H
  have H' := am H
  clear H
  go_wp2_with (first | (go_at_call 52; (with_reducible refine (rewrite_letters_admissible.calls k _ _ l0 false _ (cq HR0) HC0.out A6.out).mono ?_); rintro e w11 ⟨rfl, hb⟩; replace HB := bs hb; (try clear hb)))
  go_meet
  case rel => exact ⟨_, (true), rq, H', ⟨by first | omega | exact Nat.le_refl _⟩, ⟨bq⟩⟩
 case rest =>
  clear HC4
  obtain ⟨kq, x28_3, rfl, HA, HJ3, HB⟩ := hcut
  cases kq with
  | zero => exact absurd HA.out (by simp [rewrite_Trace.j0])
  | succ kj3 =>
   have H := HA.out
   clear HA
   simp only [rewrite_Trace.j0] at H
   by_cases c12 : x28_3 = true
   ·subst c12
    rw [if_pos rfl] at H
    simp only [Option.some.injEq, Prod.mk.injEq] at H
    obtain ⟨rfl, rfl⟩ := H
    go_wp2
    go_ret2
    exact ⟨_, eq', by first | exact Kd.R_nil _ _ _ _ _ | exact Kd.N_nil _ _ _ _ _ | exact Kd.V_nil _ _ _ _ _ | exact Kd.Q_nil _ _ _ _ _ | exact Kd.S_nil _ _ _ _ _, bq⟩
   replace c12 := Bool.eq_false_iff.mpr c12
   subst c12
   rw [if_neg nf] at H
   have H' := am H
   clear H
   go_wp2
   go_loopg [31] kj3 (fun kq v31 w' => ∃ (x31_2 : Int), v31 = .int .i64 x31_2 ∧ Aside0 (rewrite_Trace.l0 kq l0 l1 a2 l1 (l1.length : Int) x31_2 = some (r1, r2)) ∧ Aside0 (kq ≤ kj3) ∧ Aside0 (Below w.heap.size w w'))
   case atStart => exact ⟨(0), rq, H', ⟨Nat.le_refl _⟩, ⟨bq⟩⟩
   case round =>
    clear H'
    obtain ⟨x31_2, rfl, HA, HK2, HB⟩ := hrel
    cases gk with
    | zero => exact absurd HA.out (by simp [rewrite_Trace.l0])
    | succ k2 =>
     have H := HA.out
     clear HA
     simp only [rewrite_Trace.l0] at H
     by_cases c13 : x31_2 < (l1.length : Int)
     ·rw [if_pos c13] at H
      have c13b0 : decide (x31_2 < (l1.length : Int)) = true := decide_eq_true c13
      clear c13
      by_cases c14 : 0 ≤ x31_2
      ·rw [if_pos c14] at H
       have c14b0 : decide (0 ≤ x31_2) = true := decide_eq_true c14
       clear c14
       by_cases c15 : x31_2 < (l1.length : Int)
       ·rw [if_pos c15] at H
        have c15b0 : decide (x31_2 < (l1.length : Int)) = true := decide_eq_true c15
        clear c15
        replace H := Option.bind_eq_some_iff.mp H
        obtain ⟨t274, A160, H⟩ := H
        (try dsimp only at H)
        have A16 := am A160
        clear A160
        by_cases c17 : t274 = true
        ·subst c17
         rw [if_pos rfl] at H
         have H' := am H
         clear H
         have p272 : 0 ≤ (x31_2 : Int) := oq
         have q272 : x31_2 < (l1.length : Int) := oq
         obtain ⟨ad272, A272_2, c272_2, A272_3, c272_3, e272, hx272_0, hx272_1, hx272_2, hx272_3, hx272_4, hx272_5, hl272_2, hi272_2, hl272_3, hi272_3⟩ := at_T89 HR1.out x31_2 p272 q272
         cases e272
         replace hx272_0 := cw hx272_0
         replace hx272_1 := cw hx272_1
         replace hx272_2 := cw hx272_2
         replace hx272_3 := cw hx272_3
         replace hx272_4 := cw hx272_4
         replace hx272_5 := cw hx272_5
         have HR272_2 := am hi272_2
         have HC272_2 := am hl272_2
         clear hi272_2 hl272_2
         have HR272_3 := am hi272_3
         have HC272_3 := am hl272_3
         clear hi272_3 hl272_3
         replace p272 := eq_true p272
         replace q272 := eq_true q272
         go_wp2_with (first | ((with_reducible refine gate_dst (N := 9) rfl ?_); refine bx 9 #[.int .i32 0, .string (⟨#[]⟩ : ByteArray), .slice none 0 0, .slice none 0 0, .bool false, .bool false] 89 ?_; intro gb273 hg w18 hbox hb; have BK273 := am hbox; have GE273 := sz hg; replace HB := bs hb; clear hb hbox hg; obtain ⟨zaa, zab, zac, zad, zae, zaf, zag, zah, zai, zaj, zak, zal⟩ := bc6 BK273) | ((with_reducible refine gate_callee (f := 32) rfl ?_); refine gL (some 37) Tryz.func32 #[.slice A0 l0.length c0, .agg #[.int .i32 ((rd_T89 l1 x31_2).f0), .string ((rd_T89 l1 x31_2).f1), .slice A272_2 ((rd_T89 l1 x31_2).f2).length c272_2, .slice A272_3 ((rd_T89 l1 x31_2).f3).length c272_3, .bool ((rd_T89 l1 x31_2).f4), .bool ((rd_T89 l1 x31_2).f5)]] ?_; (with_reducible refine (rewrite_Valid.calls k2 _ _ l0 ((rd_T89 l1 x31_2).f0) ((rd_T89 l1 x31_2).f1) _ _ ((rd_T89 l1 x31_2).f2) _ _ ((rd_T89 l1 x31_2).f3) ((rd_T89 l1 x31_2).f4) ((rd_T89 l1 x31_2).f5) true _ ?side1 ?side2 ?side3 ?side4 ?side5 ?side6 (Glob.below HG.out bq) A16.out).mono ?_); (case side1 => exact Kd.C_below HR0.out bq); (case side2 => exact HC0.out); (case side3 => exact Kd.C_below HR272_2.out bq); (case side4 => exact HC272_2.out); (case side5 => exact Kd.C_below HR272_3.out bq); (case side6 => exact HC272_3.out); rintro e w20 ⟨rfl, hb⟩; refine ⟨_, rfl, ?_⟩; replace BK273 := am (blk_below (g := gb273) (o := .cells #[.int .i32 ((rd_T89 l1 x31_2).f0), .string ((rd_T89 l1 x31_2).f1), .slice A272_2 ((rd_T89 l1 x31_2).f2).length c272_2, .slice A272_3 ((rd_T89 l1 x31_2).f3).length c272_3, .bool ((rd_T89 l1 x31_2).f4), .bool ((rd_T89 l1 x31_2).f5)] 89 (0, 0)) (bp BK273) hb); replace HB := bs hb; (try clear hb)))
         go_roundg k2
         case measure => have := HJ3.out; have := HK2.out; omega
         case rel => exact ⟨(wrap64 (x31_2 + 1)), rq, H', ⟨by have := HJ3.out; have := HK2.out; omega⟩, ⟨bq⟩⟩
        replace c17 := Bool.eq_false_iff.mpr c17
        subst c17
        rw [if_neg nf] at H
        simp only [Option.some.injEq, Prod.mk.injEq] at H
        obtain ⟨rfl, rfl⟩ := H
        have p272 : 0 ≤ (x31_2 : Int) := oq
        have q272 : x31_2 < (l1.length : Int) := oq
        obtain ⟨ad272, A272_2, c272_2, A272_3, c272_3, e272, hx272_0, hx272_1, hx272_2, hx272_3, hx272_4, hx272_5, hl272_2, hi272_2, hl272_3, hi272_3⟩ := at_T89 HR1.out x31_2 p272 q272
        cases e272
        replace hx272_0 := cw hx272_0
        replace hx272_1 := cw hx272_1
        replace hx272_2 := cw hx272_2
        replace hx272_3 := cw hx272_3
        replace hx272_4 := cw hx272_4
        replace hx272_5 := cw hx272_5
        have HR272_2 := am hi272_2
        have HC272_2 := am hl272_2
        clear hi272_2 hl272_2
        have HR272_3 := am hi272_3
        have HC272_3 := am hl272_3
        clear hi272_3 hl272_3
        replace p272 := eq_true p272
        replace q272 := eq_true q272
        go_wp2_with (first | ((with_reducible refine gate_dst (N := 9) rfl ?_); refine bx 9 #[.int .i32 0, .string (⟨#[]⟩ : ByteArray), .slice none 0 0, .slice none 0 0, .bool false, .bool false] 89 ?_; intro gb273 hg w21 hbox hb; have BK273 := am hbox; have GE273 := sz hg; replace HB := bs hb; clear hb hbox hg; obtain ⟨zam, zan, zao, zap, zaq, zar, zas, zat, zau, zav, zaw, zax⟩ := bc6 BK273) | ((with_reducible refine gate_callee (f := 32) rfl ?_); refine gL (some 37) Tryz.func32 #[.slice A0 l0.length c0, .agg #[.int .i32 ((rd_T89 l1 x31_2).f0), .string ((rd_T89 l1 x31_2).f1), .slice A272_2 ((rd_T89 l1 x31_2).f2).length c272_2, .slice A272_3 ((rd_T89 l1 x31_2).f3).length c272_3, .bool ((rd_T89 l1 x31_2).f4), .bool ((rd_T89 l1 x31_2).f5)]] ?_; (with_reducible refine (rewrite_Valid.calls k2 _ _ l0 ((rd_T89 l1 x31_2).f0) ((rd_T89 l1 x31_2).f1) _ _ ((rd_T89 l1 x31_2).f2) _ _ ((rd_T89 l1 x31_2).f3) ((rd_T89 l1 x31_2).f4) ((rd_T89 l1 x31_2).f5) false _ ?side1 ?side2 ?side3 ?side4 ?side5 ?side6 (Glob.below HG.out bq) A16.out).mono ?_); (case side1 => exact Kd.C_below HR0.out bq); (case side2 => exact HC0.out); (case side3 => exact Kd.C_below HR272_2.out bq); (case side4 => exact HC272_2.out); (case side5 => exact Kd.C_below HR272_3.out bq); (case side6 => exact HC272_3.out); rintro e w23 ⟨rfl, hb⟩; refine ⟨_, rfl, ?_⟩; replace BK273 := am (blk_below (g := gb273) (o := .cells #[.int .i32 ((rd_T89 l1 x31_2).f0), .string ((rd_T89 l1 x31_2).f1), .slice A272_2 ((rd_T89 l1 x31_2).f2).length c272_2, .slice A272_3 ((rd_T89 l1 x31_2).f3).length c272_3, .bool ((rd_T89 l1 x31_2).f4), .bool ((rd_T89 l1 x31_2).f5)] 89 (0, 0)) (bp BK273) hb); replace HB := bs hb; (try clear hb)))
        go_ret2
        exact ⟨_, eq', by first | exact Kd.R_nil _ _ _ _ _ | exact Kd.N_nil _ _ _ _ _ | exact Kd.V_nil _ _ _ _ _ | exact Kd.Q_nil _ _ _ _ _ | exact Kd.S_nil _ _ _ _ _, bq⟩
       rw [if_neg c15] at H
       exact absurd H (by simp)
      rw [if_neg c14] at H
      exact absurd H (by simp)
     rw [if_neg c13] at H
     have c13b0 : decide (x31_2 < (l1.length : Int)) = false := decide_eq_false c13
     clear c13
     obtain ⟨y275, hy275⟩ : ∃ y_ : List ByteArray, y_ = (([a2] : List ByteArray)) := ⟨_, rfl⟩
     replace H : (rewrite_Trace.l1 k2 l0 y275 l1 (l1.length : Int) 0) = some (r1, r2) := by first | (rw [hy275]; with_reducible exact H) | (have H2_ := (Option.bind_some _ _).symm.trans H; rw [hy275]; with_reducible exact H2_) | (have H2_ := (Option.bind_some _ _).symm.trans H; with_reducible exact H2_) | with_reducible exact H | (rw [hy275]; exact H) | exact H
     have Ny275 := am hy275
     clear hy275
     have H' := am H
     clear H
     go_wp2_with (first | ((with_reducible refine gate_dst (N := 41) rfl ?_); refine Kd.R_lit Kd.string _ 9 ?hg (N := 41) ?hd (xs := ([a2] : List ByteArray)) (inner := [.string a2]) (ok := fun _ => True) (okp := fun _ => True) ?hr ?hp (fun _ hk => hk) trivial (Below.refl _ _) (Nat.le_refl _) (by simp) ?_; (case hd => rfl); (case hg => rfl); (case hr => first | (go_simp; done) | (go_simp; rfl)); (case hp => exact (Reps.one (show Kd.M Kd.string _ _ _ a2 [.string a2] from rfl) (Reps.none _ _))); intro v276 w24 ho25 hb hg_ hnew_; clear hg_ hnew_; (first | rw [← Ny275.out] at ho25 | (simp only [Int.reduceToNat] at ho25; rw [← Ny275.out] at ho25)); have HO277 := am (Kd.R_lower ho25 (below_size bq)); replace HB := bs hb; clear hb ho25))
     go_loopg [10, 44] k2 (fun kq v10 v44 w' => ∃ (x10_3 : List ByteArray) (x44_3 : Int), v44 = .int .i64 x44_3 ∧ Aside0 (rewrite_Trace.l1 kq l0 x10_3 l1 (l1.length : Int) x44_3 = some (r1, r2)) ∧ Aside0 (kq ≤ k2) ∧ Aside0 (Kd.R Kd.string 9 w' w.heap.size (fun _ => True) v10 x10_3) ∧ Aside0 (Below w.heap.size w w'))
     case atStart => exact ⟨(y275), (0), rq, H', ⟨Nat.le_refl _⟩, ⟨rR HO277⟩, ⟨bq⟩⟩
     case round =>
      clear H'
      clear c13b0
      obtain ⟨x10_3, x44_3, rfl, HA, HK3, HO_10, HB⟩ := hrel
      cases gk with
      | zero => exact absurd HA.out (by simp [rewrite_Trace.l1])
      | succ k3 =>
       have H := HA.out
       clear HA
       simp only [rewrite_Trace.l1] at H
       by_cases c26 : x44_3 < (l1.length : Int)
       ·rw [if_pos c26] at H
        have c26b0 : decide (x44_3 < (l1.length : Int)) = true := decide_eq_true c26
        clear c26
        by_cases c27 : 0 ≤ x44_3
        ·rw [if_pos c27] at H
         have c27b0 : decide (0 ≤ x44_3) = true := decide_eq_true c27
         clear c27
         by_cases c28 : x44_3 < (l1.length : Int)
         ·rw [if_pos c28] at H
          have c28b0 : decide (x44_3 < (l1.length : Int)) = true := decide_eq_true c28
          clear c28
          obtain ⟨ji29, hji29⟩ : ∃ j_ : Int, (wrap64 ((x10_3.length : Int) - 1)) = j_ := ⟨_, rfl⟩
          replace H : (if 0 ≤ (ji29) then (if (ji29) < (x10_3.length : Int) then ((rewrite_Apply.f k3 l0 ((rd_T89 l1 x44_3).f0) ((rd_T89 l1 x44_3).f1) ((rd_T89 l1 x44_3).f2) ((rd_T89 l1 x44_3).f3) ((rd_T89 l1 x44_3).f4) ((rd_T89 l1 x44_3).f5) (rdOf ByteArray.empty x10_3 (ji29))).bind fun bt281 => (if bt281.2 = 0 then (if x10_3.length < 8796093022208 then (rewrite_Trace.l1 k3 l0 (x10_3 ++ [bt281.1]) l1 (l1.length : Int) (wrap64 (x44_3 + 1))) else (none)) else (some (([] : List ByteArray), bt281.2)))) else (none)) else (none)) = some (r1, r2) := by first | (rw [hji29] at H; exact H) | (simp only [hji29] at H ⊢; exact H)
          have hji29w : (IntKind.i64.wrap ((x10_3.length : Int) - 1)) = ji29 := (i64_w _).trans hji29
          by_cases c30 : 0 ≤ (ji29)
          ·rw [if_pos c30] at H
           have c30b0 : decide (0 ≤ (ji29)) = true := decide_eq_true c30
           clear c30
           by_cases c31 : (ji29) < (x10_3.length : Int)
           ·rw [if_pos c31] at H
            have c31b0 : decide ((ji29) < (x10_3.length : Int)) = true := decide_eq_true c31
            clear c31
            replace H := Option.bind_eq_some_iff.mp H
            obtain ⟨⟨t281, t282⟩, A320, H⟩ := H
            (try dsimp only at H)
            have A32 := am A320
            clear A320
            by_cases c33 : t282 = 0
            ·rw [if_pos c33] at H
             have c33b0 : (t282 == 0) = true := beq_iff_eq.mpr c33
             have c33b1 : (t282 != 0) = false := bne_eq_false_iff_eq.mpr c33
             clear c33
             by_cases c34 : x10_3.length < 8796093022208
             ·rw [if_pos c34] at H
              have LMc34 := am c34
              clear c34
              obtain ⟨y283, hy283⟩ : ∃ y_ : List ByteArray, y_ = (x10_3 ++ [t281]) := ⟨_, rfl⟩
              replace H : (rewrite_Trace.l1 k3 l0 y283 l1 (l1.length : Int) (wrap64 (x44_3 + 1))) = some (r1, r2) := by first | (rw [hy283]; with_reducible exact H) | (have H2_ := (Option.bind_some _ _).symm.trans H; rw [hy283]; with_reducible exact H2_) | (have H2_ := (Option.bind_some _ _).symm.trans H; with_reducible exact H2_) | with_reducible exact H | (rw [hy283]; exact H) | exact H
              have Ny283 := am hy283
              clear hy283
              have H' := am H
              clear H
              have p278 : 0 ≤ (x44_3 : Int) := oq
              have q278 : x44_3 < (l1.length : Int) := oq
              obtain ⟨ad278, A278_2, c278_2, A278_3, c278_3, e278, hx278_0, hx278_1, hx278_2, hx278_3, hx278_4, hx278_5, hl278_2, hi278_2, hl278_3, hi278_3⟩ := at_T89 HR1.out x44_3 p278 q278
              cases e278
              replace hx278_0 := cw hx278_0
              replace hx278_1 := cw hx278_1
              replace hx278_2 := cw hx278_2
              replace hx278_3 := cw hx278_3
              replace hx278_4 := cw hx278_4
              replace hx278_5 := cw hx278_5
              have HR278_2 := am hi278_2
              have HC278_2 := am hl278_2
              clear hi278_2 hl278_2
              have HR278_3 := am hi278_3
              have HC278_3 := am hl278_3
              clear hi278_3 hl278_3
              replace p278 := eq_true p278
              replace q278 := eq_true q278
              try go_wp2_with (first | ((with_reducible refine gate_dst (N := 12) rfl ?_); refine bx 12 #[.int .i32 0, .string (⟨#[]⟩ : ByteArray), .slice none 0 0, .slice none 0 0, .bool false, .bool false] 89 ?_; intro gb279 hg w35 hbox hb; have BK279 := am hbox; have GE279 := sz hg; replace HO_10 := am (Kd.R_below (rR HO_10) hb); replace HB := bs hb; clear hb hbox hg; obtain ⟨zay, zaz, zba, zbb, zbc, zbd, zbe, zbf, zbg, zbh, zbi, zbj⟩ := bc6 BK279))
              have n0_ : Aside0 (Kd.R Kd.string 9 ((((((w35.setCell ⟨gb279, 0, none⟩ (.int .i32 ((rd_T89 l1 x44_3).f0))).setCell ⟨gb279, 1, none⟩ (.string ((rd_T89 l1 x44_3).f1))).setCell ⟨gb279, 2, none⟩ (.slice A278_2 ((rd_T89 l1 x44_3).f2).length c278_2)).setCell ⟨gb279, 3, none⟩ (.slice A278_3 ((rd_T89 l1 x44_3).f3).length c278_3)).setCell ⟨gb279, 4, none⟩ (.bool ((rd_T89 l1 x44_3).f4))).setCell ⟨gb279, 5, none⟩ (.bool ((rd_T89 l1 x44_3).f5))) w.heap.size (fun _ => True) u10 x10_3) := ⟨by (with_reducible repeat (first | apply Kd.R_alloc | apply Kd.R_drewN | apply Kd.R_drew)); exact Kd.R_mono (Kd.R_far (p := ⟨gb279, 5, none⟩) (Kd.R_far (p := ⟨gb279, 4, none⟩) (Kd.R_far (p := ⟨gb279, 3, none⟩) (Kd.R_far (p := ⟨gb279, 2, none⟩) (Kd.R_far (p := ⟨gb279, 1, none⟩) (Kd.R_far (p := ⟨gb279, 0, none⟩) (Kd.R_types HO_10.out BK279.out (by decide)) (fun _ hk => hk.2) (.int .i32 ((rd_T89 l1 x44_3).f0))) (fun _ hk => hk.2) (.string ((rd_T89 l1 x44_3).f1))) (fun _ hk => hk.2) (.slice A278_2 ((rd_T89 l1 x44_3).f2).length c278_2)) (fun _ hk => hk.2) (.slice A278_3 ((rd_T89 l1 x44_3).f3).length c278_3)) (fun _ hk => hk.2) (.bool ((rd_T89 l1 x44_3).f4))) (fun _ hk => hk.2) (.bool ((rd_T89 l1 x44_3).f5))) (fun _ hk => trivial)⟩
              have n1_ : Aside0 (((((((w35.setCell ⟨gb279, 0, none⟩ (.int .i32 ((rd_T89 l1 x44_3).f0))).setCell ⟨gb279, 1, none⟩ (.string ((rd_T89 l1 x44_3).f1))).setCell ⟨gb279, 2, none⟩ (.slice A278_2 ((rd_T89 l1 x44_3).f2).length c278_2)).setCell ⟨gb279, 3, none⟩ (.slice A278_3 ((rd_T89 l1 x44_3).f3).length c278_3)).setCell ⟨gb279, 4, none⟩ (.bool ((rd_T89 l1 x44_3).f4))).setCell ⟨gb279, 5, none⟩ (.bool ((rd_T89 l1 x44_3).f5))).heap[gb279]? = some (.cells #[.int .i32 ((rd_T89 l1 x44_3).f0), .string ((rd_T89 l1 x44_3).f1), .slice A278_2 ((rd_T89 l1 x44_3).f2).length c278_2, .slice A278_3 ((rd_T89 l1 x44_3).f3).length c278_3, .bool ((rd_T89 l1 x44_3).f4), .bool ((rd_T89 l1 x44_3).f5)] 89 (0, 0))) := ⟨bp BK279⟩
              have n2_ : Aside0 (Below w.heap.size w ((((((w35.setCell ⟨gb279, 0, none⟩ (.int .i32 ((rd_T89 l1 x44_3).f0))).setCell ⟨gb279, 1, none⟩ (.string ((rd_T89 l1 x44_3).f1))).setCell ⟨gb279, 2, none⟩ (.slice A278_2 ((rd_T89 l1 x44_3).f2).length c278_2)).setCell ⟨gb279, 3, none⟩ (.slice A278_3 ((rd_T89 l1 x44_3).f3).length c278_3)).setCell ⟨gb279, 4, none⟩ (.bool ((rd_T89 l1 x44_3).f4))).setCell ⟨gb279, 5, none⟩ (.bool ((rd_T89 l1 x44_3).f5)))) := ⟨bq⟩
              (try clear HO_10)
              (try clear BK279)
              (try clear HB)
              generalize ((((((w35.setCell ⟨gb279, 0, none⟩ (.int .i32 ((rd_T89 l1 x44_3).f0))).setCell ⟨gb279, 1, none⟩ (.string ((rd_T89 l1 x44_3).f1))).setCell ⟨gb279, 2, none⟩ (.slice A278_2 ((rd_T89 l1 x44_3).f2).length c278_2)).setCell ⟨gb279, 3, none⟩ (.slice A278_3 ((rd_T89 l1 x44_3).f3).length c278_3)).setCell ⟨gb279, 4, none⟩ (.bool ((rd_T89 l1 x44_3).f4))).setCell ⟨gb279, 5, none⟩ (.bool ((rd_T89 l1 x44_3).f5))) = w37 at n0_ n1_ n2_ ⊢
              have HO_10 := n0_
              have BK279 := n1_
              have HB := n2_
              clear n0_ n1_ n2_
              have n0_ := am (Kd.R_drew HO_10.out)
              have n1_ := am (blk_drew BK279.out)
              have n2_ := am (below_drew1 HB.out)
              clear HO_10
              clear BK279
              clear HB
              have HO_10 := n0_
              have BK279 := n1_
              have HB := n2_
              clear n0_ n1_ n2_
              obtain ⟨Ao39, co39, eo39⟩ := Kd.R_slice HO_10.out
              (first | subst eo39 | (injection eo39 with f1_ f2_ f3_; have f4_ := f1_.symm; have f5_ := f3_.symm; clear f1_ f2_ f3_; subst f4_; subst f5_))
              have p280 : 0 ≤ ((ji29) : Int) := oq
              have q280 : (ji29) < (x10_3.length : Int) := oq
              obtain ⟨ad280, e280, hx280_0⟩ := Kd.at_string (Kd.R_reads' HO_10.out).2.2 (ji29) p280 q280
              cases e280
              replace p280 := eq_true p280
              replace q280 := eq_true q280
              refine start_ (n := 14) (S := fun w' => w'.cell? ⟨gb279, 0, none⟩ = some (.int .i32 ((rd_T89 l1 x44_3).f0)) ∧ w'.cell? ⟨gb279, 1, none⟩ = some (.string ((rd_T89 l1 x44_3).f1)) ∧ w'.cell? ⟨gb279, 2, none⟩ = some (.slice A278_2 ((rd_T89 l1 x44_3).f2).length c278_2) ∧ w'.cell? ⟨gb279, 3, none⟩ = some (.slice A278_3 ((rd_T89 l1 x44_3).f3).length c278_3) ∧ w'.cell? ⟨gb279, 4, none⟩ = some (.bool ((rd_T89 l1 x44_3).f4)) ∧ w'.cell? ⟨gb279, 5, none⟩ = some (.bool ((rd_T89 l1 x44_3).f5)) ∧ w'.cell? (ad280.add ((ji29)).toNat) = some (.string (rdOf ByteArray.empty x10_3 (ji29)))) (ds := []) (tf 14 0) (by kernel_rfl) rfl rfl ⟨(blk_cell BK279.out 0).trans rfl, (blk_cell BK279.out 1).trans rfl, (blk_cell BK279.out 2).trans rfl, (blk_cell BK279.out 3).trans rfl, (blk_cell BK279.out 4).trans rfl, (blk_cell BK279.out 5).trans rfl, hx280_0⟩ (fun hHeld => ?_); refine with_tabW rewrite_Trace.tab13 rewrite_Trace.bits13 (fun HT_ HW_ => ?_)
              generalize w37.drew = w38 at HO_10 BK279 HB hx280_0 hHeld ⊢
              refine pu 0 49 (tf 14 1) ?_
              refine pu 2 51 #[true, false, true, false, false, false, false, false, false, false, false, false, false, false] ?_
              refine pu 3 52 #[true, false, true, true, false, false, false, false, false, false, false, false, false, false] ?_
              refine pu 4 53 #[true, false, true, true, true, false, false, false, false, false, false, false, false, false] ?_
              refine pu 5 54 #[true, false, true, true, true, true, false, false, false, false, false, false, false, false] ?_
              refine pu 6 55 #[true, false, true, true, true, true, true, false, false, false, false, false, false, false] ?_
              refine take_ (i := 1) (N := some 50) (v := ?_) (a' := ?_) (tf 14 7) rfl rfl (take_ofW HT_.out HW_.out (by kernel_rfl)) (fun _ _ _ h => h) (Or.inl ⟨by rfl, ?_⟩) hHeld ?_ ?_
              rotate_left
              ·rintro w' ⟨s0, s1, s2, s3, s4, s5, s6⟩
               go_simp
               with_reducible rfl
              rotate_left
              ·simp only [Act.put, List.setIfInBounds_toArray, List.set_cons_zero, List.set_cons_succ, i64_w, i32_w]
               rfl
              refine take_ (i := 7) (N := some 56) (v := ?_) (a' := ?_) (tf 14 8) rfl rfl (take_ofW HT_.out HW_.out (by kernel_rfl)) (fun _ _ _ h => h) (Or.inl ⟨by rfl, ?_⟩) hHeld ?_ ?_
              rotate_left
              ·rintro w' ⟨s0, s1, s2, s3, s4, s5, s6⟩
               go_simp
               with_reducible rfl
              rotate_left
              ·simp only [Act.put, List.setIfInBounds_toArray, List.set_cons_zero, List.set_cons_succ, i64_w, i32_w]
               rfl
              refine one_ (i := 8) (N := some 57) (tf 14 9) rfl rfl (one_of HT_.out (by kernel_rfl)) (by decide) (fun K hK => ?_)
              refine goes_ Tryz.func54 (by kernel_rfl) rfl #[.slice A0 l0.length c0, .agg #[.int .i32 ((rd_T89 l1 x44_3).f0), .string ((rd_T89 l1 x44_3).f1), .slice A278_2 ((rd_T89 l1 x44_3).f2).length c278_2, .slice A278_3 ((rd_T89 l1 x44_3).f3).length c278_3, .bool ((rd_T89 l1 x44_3).f4), .bool ((rd_T89 l1 x44_3).f5)], .string (rdOf ByteArray.empty x10_3 (ji29))] (by rfl) rfl rfl (by (try simp only [List.map_toArray, List.map_cons, List.map_nil]); first | done | (simp only [hji29]; rfl) | rfl | (simp only [List.length_drop, List.length_take]; rfl)) ?_
              with_reducible refine (rewrite_Apply.calls k3 _ _ l0 ((rd_T89 l1 x44_3).f0) ((rd_T89 l1 x44_3).f1) _ _ ((rd_T89 l1 x44_3).f2) _ _ ((rd_T89 l1 x44_3).f3) ((rd_T89 l1 x44_3).f4) ((rd_T89 l1 x44_3).f5) (rdOf ByteArray.empty x10_3 (ji29)) t281 t282 _ ?side1 ?side2 ?side3 ?side4 ?side5 ?side6 (Glob.below HG.out bq) A32.out).mono ?_
              (case side1 => repeat (first | exact (Kd.C_below HR0.out HB.out) | (with_reducible refine Kd.C_alloc ?_ _) | (with_reducible refine Kd.C_drewN ?_ _) | (with_reducible refine Kd.C_drew ?_)))
              (case side2 => exact HC0.out)
              (case side3 => repeat (first | exact (Kd.C_below HR278_2.out HB.out) | (with_reducible refine Kd.C_alloc ?_ _) | (with_reducible refine Kd.C_drewN ?_ _) | (with_reducible refine Kd.C_drew ?_)))
              (case side4 => exact HC278_2.out)
              (case side5 => repeat (first | exact (Kd.C_below HR278_3.out HB.out) | (with_reducible refine Kd.C_alloc ?_ _) | (with_reducible refine Kd.C_drewN ?_ _) | (with_reducible refine Kd.C_drew ?_)))
              (case side6 => exact HC278_3.out)
              rintro e w40 ⟨rfl, hb⟩
              have HS6_ := (hb.cell (World.block_lt_of_cell? _ _ (hHeld.2.2.2.2.2.2))).trans (hHeld.2.2.2.2.2.2)
              refine ⟨_, rfl, ?_⟩
              have n0_ := am (Kd.R_below (rR HO_10) hb)
              have n1_ := (bk BK279 hb)
              have n2_ := bs hb
              clear HO_10
              clear BK279
              clear HB
              have HO_10 := n0_
              have BK279 := n1_
              have HB := n2_
              clear n0_ n1_ n2_
              (try clear hb)
              (try clear hb2)
              (try clear hk)
              (try clear hi)
              refine hK.out _ _ ⟨(blk_cell BK279.out 0).trans rfl, (blk_cell BK279.out 1).trans rfl, (blk_cell BK279.out 2).trans rfl, (blk_cell BK279.out 3).trans rfl, (blk_cell BK279.out 4).trans rfl, (blk_cell BK279.out 5).trans rfl, HS6_⟩ (fun hHeld => ?_)
              clear hK K
              refine norm_ (a' := ?_) ?_ ?_
              rotate_left
              ·show Act.put _ (some 57) _ = _
               simp only [Act.put, List.setIfInBounds_toArray, List.set_cons_zero, List.set_cons_succ, i64_w, i32_w]
               rfl
              refine pu 9 48 (tf 14 10) ?_
              refine pu 10 58 (tf 14 11) ?_
              refine pu 11 59 (tf 14 12) ?_
              refine pu 12 13 (tf 14 13) ?_
              refine pu 13 14 (tf 14 14) ?_
              refine done_ (done_of HT_.out (by kernel_rfl)) ?_
              try go_wp2_with (first | ((with_reducible refine gate_builtin (b := .append) (xs := #[.tmp 63, .tmp 65]) rfl ?_); at_builtin; refine Kd.R_append Kd.string (w0 := w) w.heap.size rfl (.tmp 63) (.tmp 65) 49 9 (.string ⟨#[]⟩) 16 rfl Tryz.underlying49 info9 rfl (by decide) (by omega) (.slice (some ad280) x10_3.length co39) x10_3 t281 [.string t281] (fun _ => True) (fun _ => False) rfl rfl ?aP (fun _ hk => hk.elim) ?aF ?aO ?aB ?aS ?aL ?_; (case aP => exact rfl); (case aB => exact bq); (case aF => exact (fun _ _ => trivial)); (case aO => exact (rR HO_10)); (case aS => exact (below_size bq)); (case aL => have := LMc34.out; omega); intro v284 w41 ho hb hg hat; rw [← Ny283.out] at ho; have n0_ := am (blk_grown (g := gb279) (o := .cells #[.int .i32 ((rd_T89 l1 x44_3).f0), .string ((rd_T89 l1 x44_3).f1), .slice A278_2 ((rd_T89 l1 x44_3).f2).length c278_2, .slice A278_3 ((rd_T89 l1 x44_3).f3).length c278_3, .bool ((rd_T89 l1 x44_3).f4), .bool ((rd_T89 l1 x44_3).f5)] 89 (0, 0)) (bd BK279) hg (Kd.R_ne HO_10.out BK279.out (by decide))); have n1_ := am (hb); have n2_ := am (ho); clear BK279; clear HB; clear HO_10; have BK279 := n0_; have HB := n1_; have HO285 := n2_; clear n0_ n1_ n2_; clear ho hb hg hat))
              go_roundg k3
              case measure => have := HJ3.out; have := HK2.out; have := HK3.out; omega
              case rel => exact ⟨(y283), (wrap64 (x44_3 + 1)), rq, H', ⟨by have := HJ3.out; have := HK2.out; have := HK3.out; omega⟩, ⟨rR HO285⟩, ⟨bq⟩⟩
             rw [if_neg c34] at H
             exact absurd H (by simp)
            rw [if_neg c33] at H
            have c33b0 : (t282 == 0) = false := beq_eq_false_iff_ne.mpr c33
            have c33b1 : (t282 != 0) = true := bne_iff_ne.mpr c33
            simp only [Option.some.injEq, Prod.mk.injEq] at H
            obtain ⟨rfl, rfl⟩ := H
            have p278 : 0 ≤ (x44_3 : Int) := oq
            have q278 : x44_3 < (l1.length : Int) := oq
            obtain ⟨ad278, A278_2, c278_2, A278_3, c278_3, e278, hx278_0, hx278_1, hx278_2, hx278_3, hx278_4, hx278_5, hl278_2, hi278_2, hl278_3, hi278_3⟩ := at_T89 HR1.out x44_3 p278 q278
            cases e278
            replace hx278_0 := cw hx278_0
            replace hx278_1 := cw hx278_1
            replace hx278_2 := cw hx278_2
            replace hx278_3 := cw hx278_3
            replace hx278_4 := cw hx278_4
            replace hx278_5 := cw hx278_5
            have HR278_2 := am hi278_2
            have HC278_2 := am hl278_2
            clear hi278_2 hl278_2
            have HR278_3 := am hi278_3
            have HC278_3 := am hl278_3
            clear hi278_3 hl278_3
            replace p278 := eq_true p278
            replace q278 := eq_true q278
            try go_wp2_with (first | ((with_reducible refine gate_dst (N := 12) rfl ?_); refine bx 12 #[.int .i32 0, .string (⟨#[]⟩ : ByteArray), .slice none 0 0, .slice none 0 0, .bool false, .bool false] 89 ?_; intro gb279 hg w42 hbox hb; have BK279 := am hbox; have GE279 := sz hg; replace HO_10 := am (Kd.R_below (rR HO_10) hb); replace HB := bs hb; clear hb hbox hg; obtain ⟨zbk, zbl, zbm, zbn, zbo, zbp, zbq, zbr, zbs, zbt, zbu, zbv⟩ := bc6 BK279))
            have n0_ : Aside0 (Kd.R Kd.string 9 ((((((w42.setCell ⟨gb279, 0, none⟩ (.int .i32 ((rd_T89 l1 x44_3).f0))).setCell ⟨gb279, 1, none⟩ (.string ((rd_T89 l1 x44_3).f1))).setCell ⟨gb279, 2, none⟩ (.slice A278_2 ((rd_T89 l1 x44_3).f2).length c278_2)).setCell ⟨gb279, 3, none⟩ (.slice A278_3 ((rd_T89 l1 x44_3).f3).length c278_3)).setCell ⟨gb279, 4, none⟩ (.bool ((rd_T89 l1 x44_3).f4))).setCell ⟨gb279, 5, none⟩ (.bool ((rd_T89 l1 x44_3).f5))) w.heap.size (fun _ => True) u10 x10_3) := ⟨by (with_reducible repeat (first | apply Kd.R_alloc | apply Kd.R_drewN | apply Kd.R_drew)); exact Kd.R_mono (Kd.R_far (p := ⟨gb279, 5, none⟩) (Kd.R_far (p := ⟨gb279, 4, none⟩) (Kd.R_far (p := ⟨gb279, 3, none⟩) (Kd.R_far (p := ⟨gb279, 2, none⟩) (Kd.R_far (p := ⟨gb279, 1, none⟩) (Kd.R_far (p := ⟨gb279, 0, none⟩) (Kd.R_types HO_10.out BK279.out (by decide)) (fun _ hk => hk.2) (.int .i32 ((rd_T89 l1 x44_3).f0))) (fun _ hk => hk.2) (.string ((rd_T89 l1 x44_3).f1))) (fun _ hk => hk.2) (.slice A278_2 ((rd_T89 l1 x44_3).f2).length c278_2)) (fun _ hk => hk.2) (.slice A278_3 ((rd_T89 l1 x44_3).f3).length c278_3)) (fun _ hk => hk.2) (.bool ((rd_T89 l1 x44_3).f4))) (fun _ hk => hk.2) (.bool ((rd_T89 l1 x44_3).f5))) (fun _ hk => trivial)⟩
            have n1_ : Aside0 (((((((w42.setCell ⟨gb279, 0, none⟩ (.int .i32 ((rd_T89 l1 x44_3).f0))).setCell ⟨gb279, 1, none⟩ (.string ((rd_T89 l1 x44_3).f1))).setCell ⟨gb279, 2, none⟩ (.slice A278_2 ((rd_T89 l1 x44_3).f2).length c278_2)).setCell ⟨gb279, 3, none⟩ (.slice A278_3 ((rd_T89 l1 x44_3).f3).length c278_3)).setCell ⟨gb279, 4, none⟩ (.bool ((rd_T89 l1 x44_3).f4))).setCell ⟨gb279, 5, none⟩ (.bool ((rd_T89 l1 x44_3).f5))).heap[gb279]? = some (.cells #[.int .i32 ((rd_T89 l1 x44_3).f0), .string ((rd_T89 l1 x44_3).f1), .slice A278_2 ((rd_T89 l1 x44_3).f2).length c278_2, .slice A278_3 ((rd_T89 l1 x44_3).f3).length c278_3, .bool ((rd_T89 l1 x44_3).f4), .bool ((rd_T89 l1 x44_3).f5)] 89 (0, 0))) := ⟨bp BK279⟩
            have n2_ : Aside0 (Below w.heap.size w ((((((w42.setCell ⟨gb279, 0, none⟩ (.int .i32 ((rd_T89 l1 x44_3).f0))).setCell ⟨gb279, 1, none⟩ (.string ((rd_T89 l1 x44_3).f1))).setCell ⟨gb279, 2, none⟩ (.slice A278_2 ((rd_T89 l1 x44_3).f2).length c278_2)).setCell ⟨gb279, 3, none⟩ (.slice A278_3 ((rd_T89 l1 x44_3).f3).length c278_3)).setCell ⟨gb279, 4, none⟩ (.bool ((rd_T89 l1 x44_3).f4))).setCell ⟨gb279, 5, none⟩ (.bool ((rd_T89 l1 x44_3).f5)))) := ⟨bq⟩
            (try clear HO_10)
            (try clear BK279)
            (try clear HB)
            generalize ((((((w42.setCell ⟨gb279, 0, none⟩ (.int .i32 ((rd_T89 l1 x44_3).f0))).setCell ⟨gb279, 1, none⟩ (.string ((rd_T89 l1 x44_3).f1))).setCell ⟨gb279, 2, none⟩ (.slice A278_2 ((rd_T89 l1 x44_3).f2).length c278_2)).setCell ⟨gb279, 3, none⟩ (.slice A278_3 ((rd_T89 l1 x44_3).f3).length c278_3)).setCell ⟨gb279, 4, none⟩ (.bool ((rd_T89 l1 x44_3).f4))).setCell ⟨gb279, 5, none⟩ (.bool ((rd_T89 l1 x44_3).f5))) = w44 at n0_ n1_ n2_ ⊢
            have HO_10 := n0_
            have BK279 := n1_
            have HB := n2_
            clear n0_ n1_ n2_
            have n0_ := am (Kd.R_drew HO_10.out)
            have n1_ := am (blk_drew BK279.out)
            have n2_ := am (below_drew1 HB.out)
            clear HO_10
            clear BK279
            clear HB
            have HO_10 := n0_
            have BK279 := n1_
            have HB := n2_
            clear n0_ n1_ n2_
            obtain ⟨Ao46, co46, eo46⟩ := Kd.R_slice HO_10.out
            (first | subst eo46 | (injection eo46 with f1_ f2_ f3_; have f4_ := f1_.symm; have f5_ := f3_.symm; clear f1_ f2_ f3_; subst f4_; subst f5_))
            have p280 : 0 ≤ ((ji29) : Int) := oq
            have q280 : (ji29) < (x10_3.length : Int) := oq
            obtain ⟨ad280, e280, hx280_0⟩ := Kd.at_string (Kd.R_reads' HO_10.out).2.2 (ji29) p280 q280
            cases e280
            replace p280 := eq_true p280
            replace q280 := eq_true q280
            refine start_ (n := 14) (S := fun w' => w'.cell? ⟨gb279, 0, none⟩ = some (.int .i32 ((rd_T89 l1 x44_3).f0)) ∧ w'.cell? ⟨gb279, 1, none⟩ = some (.string ((rd_T89 l1 x44_3).f1)) ∧ w'.cell? ⟨gb279, 2, none⟩ = some (.slice A278_2 ((rd_T89 l1 x44_3).f2).length c278_2) ∧ w'.cell? ⟨gb279, 3, none⟩ = some (.slice A278_3 ((rd_T89 l1 x44_3).f3).length c278_3) ∧ w'.cell? ⟨gb279, 4, none⟩ = some (.bool ((rd_T89 l1 x44_3).f4)) ∧ w'.cell? ⟨gb279, 5, none⟩ = some (.bool ((rd_T89 l1 x44_3).f5)) ∧ w'.cell? (ad280.add ((ji29)).toNat) = some (.string (rdOf ByteArray.empty x10_3 (ji29)))) (ds := []) (tf 14 0) (by kernel_rfl) rfl rfl ⟨(blk_cell BK279.out 0).trans rfl, (blk_cell BK279.out 1).trans rfl, (blk_cell BK279.out 2).trans rfl, (blk_cell BK279.out 3).trans rfl, (blk_cell BK279.out 4).trans rfl, (blk_cell BK279.out 5).trans rfl, hx280_0⟩ (fun hHeld => ?_); refine with_tabW rewrite_Trace.tab13 rewrite_Trace.bits13 (fun HT_ HW_ => ?_)
            generalize w44.drew = w45 at HO_10 BK279 HB hx280_0 hHeld ⊢
            refine pu 0 49 (tf 14 1) ?_
            refine pu 2 51 #[true, false, true, false, false, false, false, false, false, false, false, false, false, false] ?_
            refine pu 3 52 #[true, false, true, true, false, false, false, false, false, false, false, false, false, false] ?_
            refine pu 4 53 #[true, false, true, true, true, false, false, false, false, false, false, false, false, false] ?_
            refine pu 5 54 #[true, false, true, true, true, true, false, false, false, false, false, false, false, false] ?_
            refine pu 6 55 #[true, false, true, true, true, true, true, false, false, false, false, false, false, false] ?_
            refine take_ (i := 1) (N := some 50) (v := ?_) (a' := ?_) (tf 14 7) rfl rfl (take_ofW HT_.out HW_.out (by kernel_rfl)) (fun _ _ _ h => h) (Or.inl ⟨by rfl, ?_⟩) hHeld ?_ ?_
            rotate_left
            ·rintro w' ⟨s0, s1, s2, s3, s4, s5, s6⟩
             go_simp
             with_reducible rfl
            rotate_left
            ·simp only [Act.put, List.setIfInBounds_toArray, List.set_cons_zero, List.set_cons_succ, i64_w, i32_w]
             rfl
            refine take_ (i := 7) (N := some 56) (v := ?_) (a' := ?_) (tf 14 8) rfl rfl (take_ofW HT_.out HW_.out (by kernel_rfl)) (fun _ _ _ h => h) (Or.inl ⟨by rfl, ?_⟩) hHeld ?_ ?_
            rotate_left
            ·rintro w' ⟨s0, s1, s2, s3, s4, s5, s6⟩
             go_simp
             with_reducible rfl
            rotate_left
            ·simp only [Act.put, List.setIfInBounds_toArray, List.set_cons_zero, List.set_cons_succ, i64_w, i32_w]
             rfl
            refine one_ (i := 8) (N := some 57) (tf 14 9) rfl rfl (one_of HT_.out (by kernel_rfl)) (by decide) (fun K hK => ?_)
            refine goes_ Tryz.func54 (by kernel_rfl) rfl #[.slice A0 l0.length c0, .agg #[.int .i32 ((rd_T89 l1 x44_3).f0), .string ((rd_T89 l1 x44_3).f1), .slice A278_2 ((rd_T89 l1 x44_3).f2).length c278_2, .slice A278_3 ((rd_T89 l1 x44_3).f3).length c278_3, .bool ((rd_T89 l1 x44_3).f4), .bool ((rd_T89 l1 x44_3).f5)], .string (rdOf ByteArray.empty x10_3 (ji29))] (by rfl) rfl rfl (by (try simp only [List.map_toArray, List.map_cons, List.map_nil]); first | done | (simp only [hji29]; rfl) | rfl | (simp only [List.length_drop, List.length_take]; rfl)) ?_
            with_reducible refine (rewrite_Apply.calls k3 _ _ l0 ((rd_T89 l1 x44_3).f0) ((rd_T89 l1 x44_3).f1) _ _ ((rd_T89 l1 x44_3).f2) _ _ ((rd_T89 l1 x44_3).f3) ((rd_T89 l1 x44_3).f4) ((rd_T89 l1 x44_3).f5) (rdOf ByteArray.empty x10_3 (ji29)) t281 t282 _ ?side1 ?side2 ?side3 ?side4 ?side5 ?side6 (Glob.below HG.out bq) A32.out).mono ?_
            (case side1 => repeat (first | exact (Kd.C_below HR0.out HB.out) | (with_reducible refine Kd.C_alloc ?_ _) | (with_reducible refine Kd.C_drewN ?_ _) | (with_reducible refine Kd.C_drew ?_)))
            (case side2 => exact HC0.out)
            (case side3 => repeat (first | exact (Kd.C_below HR278_2.out HB.out) | (with_reducible refine Kd.C_alloc ?_ _) | (with_reducible refine Kd.C_drewN ?_ _) | (with_reducible refine Kd.C_drew ?_)))
            (case side4 => exact HC278_2.out)
            (case side5 => repeat (first | exact (Kd.C_below HR278_3.out HB.out) | (with_reducible refine Kd.C_alloc ?_ _) | (with_reducible refine Kd.C_drewN ?_ _) | (with_reducible refine Kd.C_drew ?_)))
            (case side6 => exact HC278_3.out)
            rintro e w47 ⟨rfl, hb⟩
            have HS6_ := (hb.cell (World.block_lt_of_cell? _ _ (hHeld.2.2.2.2.2.2))).trans (hHeld.2.2.2.2.2.2)
            refine ⟨_, rfl, ?_⟩
            have n0_ := am (Kd.R_below (rR HO_10) hb)
            have n1_ := (bk BK279 hb)
            have n2_ := bs hb
            clear HO_10
            clear BK279
            clear HB
            have HO_10 := n0_
            have BK279 := n1_
            have HB := n2_
            clear n0_ n1_ n2_
            (try clear hb)
            (try clear hb2)
            (try clear hk)
            (try clear hi)
            refine hK.out _ _ ⟨(blk_cell BK279.out 0).trans rfl, (blk_cell BK279.out 1).trans rfl, (blk_cell BK279.out 2).trans rfl, (blk_cell BK279.out 3).trans rfl, (blk_cell BK279.out 4).trans rfl, (blk_cell BK279.out 5).trans rfl, HS6_⟩ (fun hHeld => ?_)
            clear hK K
            refine norm_ (a' := ?_) ?_ ?_
            rotate_left
            ·show Act.put _ (some 57) _ = _
             simp only [Act.put, List.setIfInBounds_toArray, List.set_cons_zero, List.set_cons_succ, i64_w, i32_w]
             rfl
            refine pu 9 48 (tf 14 10) ?_
            refine pu 10 58 (tf 14 11) ?_
            refine pu 11 59 (tf 14 12) ?_
            refine pu 12 13 (tf 14 13) ?_
            refine pu 13 14 (tf 14 14) ?_
            refine done_ (done_of HT_.out (by kernel_rfl)) ?_
            try go_wp2
            go_ret2
            exact ⟨_, by first | rfl | (simp [errW_none, errW_some] <;> rfl) | (simp only [← hji29]; first | rfl | (simp [errW_none, errW_some] <;> rfl)) | (simp [*, errW_none, errW_some] <;> rfl), by first | exact Kd.R_nil _ _ _ _ _ | exact Kd.N_nil _ _ _ _ _ | exact Kd.V_nil _ _ _ _ _ | exact Kd.Q_nil _ _ _ _ _ | exact Kd.S_nil _ _ _ _ _, bq⟩
           rw [if_neg c31] at H
           exact absurd H (by simp)
          rw [if_neg c30] at H
          exact absurd H (by simp)
         rw [if_neg c28] at H
         exact absurd H (by simp)
        rw [if_neg c27] at H
        exact absurd H (by simp)
       rw [if_neg c26] at H
       have c26b0 : decide (x44_3 < (l1.length : Int)) = false := decide_eq_false c26
       clear c26
       simp only [Option.some.injEq, Prod.mk.injEq] at H
       obtain ⟨rfl, rfl⟩ := H
       go_wp2
       go_ret2
       exact ⟨_, eq', rR HO_10, bq⟩
theorem rewrite_Cascade.calls (k : Nat) (A0 : Option Addr) (c0 : Nat) (l0 : List (S48)) (A1 : Option Addr) (c1 : Nat) (l1 : List (S89)) (a2 : ByteArray) (r1 : ByteArray) (r2 : Int) (w : World) (hr0 : Kd.C k48 w A0 l0.length l0) (hc0 : l0.length ≤ c0) (hr1 : Kd.C k89 w A1 l1.length l1) (hc1 : l1.length ≤ c1) (hG : Glob w) (h : rewrite_Cascade.f k l0 l1 a2 = some (r1, r2)) :
  Calls Tryz.prog 10 #[.slice A0 l0.length c0, .slice A1 l1.length c1, .string a2] w fun e w' => e = .returned (.tuple #[.string r1, .int .i64 r2]) ∧ Below w.heap.size w w' := by
 have HG := am hG
 clear hG
 have HR0 := am hr0
 have HC0 := am hc0
 clear hr0 hc0
 have HR1 := am hr1
 have HC1 := am hc1
 clear hr1 hc1
 have HB := am (Below.refl w.heap.size w)
 have H : ((rewrite_Trace.f k l0 l1 a2).bind fun bt286 => (if bt286.2 = 0 then (if 0 ≤ (wrap64 ((bt286.1.length : Int) - 1)) then (if (wrap64 ((bt286.1.length : Int) - 1)) < (bt286.1.length : Int) then (some (rdOf ByteArray.empty bt286.1 (wrap64 ((bt286.1.length : Int) - 1)), 0)) else (none)) else (none)) else (some ((⟨#[]⟩ : ByteArray), bt286.2)))) = some (r1, r2) := h
 clear h
 replace H := Option.bind_eq_some_iff.mp H
 obtain ⟨⟨t286, t287⟩, A40, H⟩ := H
 (try dsimp only at H)
 have A4 := am A40
 clear A40
 by_cases c5 : t287 = 0
 ·rw [if_pos c5] at H
  have c5b0 : (t287 == 0) = true := beq_iff_eq.mpr c5
  have c5b1 : (t287 != 0) = false := bne_eq_false_iff_eq.mpr c5
  clear c5
  obtain ⟨ji6, hji6⟩ : ∃ j_ : Int, (wrap64 ((t286.length : Int) - 1)) = j_ := ⟨_, rfl⟩
  replace H : (if 0 ≤ (ji6) then (if (ji6) < (t286.length : Int) then (some (rdOf ByteArray.empty t286 (ji6), 0)) else (none)) else (none)) = some (r1, r2) := by first | (rw [hji6] at H; exact H) | (simp only [hji6] at H ⊢; exact H)
  (try rw [hji6] at A4)
  have hji6w : (IntKind.i64.wrap ((t286.length : Int) - 1)) = ji6 := (i64_w _).trans hji6
  by_cases c7 : 0 ≤ (ji6)
  ·rw [if_pos c7] at H
   have c7b0 : decide (0 ≤ (ji6)) = true := decide_eq_true c7
   clear c7
   by_cases c8 : (ji6) < (t286.length : Int)
   ·rw [if_pos c8] at H
    have c8b0 : decide ((ji6) < (t286.length : Int)) = true := decide_eq_true c8
    clear c8
    simp only [Option.some.injEq, Prod.mk.injEq] at H
    obtain ⟨rfl, rfl⟩ := H
    go_enter Tryz.func10, Tryz.ntmps10
    go_wp2_with (first | ((with_reducible refine gate_callee (f := 28) rfl ?_); refine gL (some 14) Tryz.func28 #[.slice A0 l0.length c0, .slice A1 l1.length c1, .string a2] ?_; (with_reducible refine (rewrite_Trace.calls k _ _ l0 _ _ l1 a2 t286 t287 _ (cd HR0) HC0.out (cd HR1) HC1.out (Glob.below HG.out bq) A4.out).mono ?_); rintro e w9 ⟨v288, rfl, ho0, hb⟩; refine ⟨_, rfl, ?_⟩; have HO289 := am (Kd.R_lower ho0 (below_size bq)); replace HB := bs hb; (try clear hb); (try clear ho0); obtain ⟨Ao10, co10, eo10⟩ := Kd.R_slice HO289.out; subst eo10; have p290 : 0 ≤ ((ji6) : Int) := oq; have q290 : (ji6) < (t286.length : Int) := oq; obtain ⟨ad290, e290, hx290_0⟩ := Kd.at_string (Kd.R_reads' HO289.out).2.2 (ji6) p290 q290; cases e290; replace p290 := eq_true p290; replace q290 := eq_true q290))
    go_ret2
    exact ⟨by first | rfl | (simp [errW_none, errW_some] <;> rfl) | (simp only [← hji6]; first | rfl | (simp [errW_none, errW_some] <;> rfl)) | (simp [*, errW_none, errW_some] <;> rfl), bq⟩
   rw [if_neg c8] at H
   exact absurd H (by simp)
  rw [if_neg c7] at H
  exact absurd H (by simp)
 rw [if_neg c5] at H
 have c5b0 : (t287 == 0) = false := beq_eq_false_iff_ne.mpr c5
 have c5b1 : (t287 != 0) = true := bne_iff_ne.mpr c5
 simp only [Option.some.injEq, Prod.mk.injEq] at H
 obtain ⟨rfl, rfl⟩ := H
 go_enter Tryz.func10, Tryz.ntmps10
 go_wp2_with (first | ((with_reducible refine gate_callee (f := 28) rfl ?_); refine gL (some 14) Tryz.func28 #[.slice A0 l0.length c0, .slice A1 l1.length c1, .string a2] ?_; (with_reducible refine (rewrite_Trace.calls k _ _ l0 _ _ l1 a2 t286 t287 _ (cd HR0) HC0.out (cd HR1) HC1.out (Glob.below HG.out bq) A4.out).mono ?_); rintro e w11 ⟨v288, rfl, ho0, hb⟩; refine ⟨_, rfl, ?_⟩; have HO289 := am (Kd.R_lower ho0 (below_size bq)); replace HB := bs hb; (try clear hb); (try clear ho0)))
 go_ret2
 exact ⟨eq', bq⟩
theorem lexicon_Index1.calls (s0 s1 s2 s3 id : ByteArray) (A4 : Option Addr) (n4 c4 b : Nat) (w : World) (hb : w.cell? ⟨b, 0, none⟩ = some (.string id)) :
  Calls Tryz.prog 70 #[.agg #[.string s0, .string s1, .string s2, .string s3, .slice A4 n4 c4], .pointer (some ⟨b, 0, none⟩)] w fun e w' => e = .returned (.bool (s0.toList == id.toList)) ∧ Below w.heap.size w w' := by
 have hba := fun o => pw_cell_below (below_alloc (Below.refl w.heap.size w) o) hb
 go_enter Tryz.func70, Tryz.ntmps70
 go_wp2
 go_ret
 exact ⟨rfl, below_alloc (Below.refl _ _) _⟩
theorem lexicon_IndexFunc.calls (A0 : Option Addr) (c0 : Nat) (l : List S34) (id : ByteArray) (b : Nat) (w : World) (hr0 : Kd.C k34 w A0 l.length l) (hc0 : l.length ≤ c0) (hl : (l.length : Int) ≤ 1000000) (hb : w.cell? ⟨b, 0, none⟩ = some (.string id)) :
  Calls Tryz.prog 69 #[.slice A0 l.length c0, .func (.func 70) #[] #[.pointer (some ⟨b, 0, none⟩)]] w fun e w' => e = .returned (.int .i64 (idxFrom id l 0)) ∧ Below w.heap.size w w' := by
 have HR := am hr0
 have HL := am hl
 have HBC := am hb
 obtain ⟨r, hr⟩ : ∃ r, idxFrom id l 0 = r := ⟨_, rfl⟩
 rw [hr]
 have HA0 := am hr
 clear hr0 hl hb hr
 go_enter Tryz.func69, Tryz.ntmps69
 go_wp2
 go_loopg [8] (l.length + 1) (fun kq v8 w' => ∃ (m : Nat), v8 = .int .i64 (m : Int) ∧ Aside0 (m ≤ l.length) ∧ Aside0 (l.length - m < kq) ∧ Aside0 (idxFrom id (l.drop m) m = r) ∧ Aside0 (Below w.heap.size w w'))
 case atStart => exact ⟨0, rfl, ⟨Nat.zero_le _⟩, ⟨by omega⟩, HA0, ⟨Below.refl _ _⟩⟩
 case round =>
  obtain ⟨m, rfl, HM, HK, HA, HB⟩ := hrel
  obtain ⟨k1, rfl⟩ : ∃ k1, gk = k1 + 1 := ⟨gk - 1, by have := HK.out; omega⟩
  by_cases c1 : (m : Int) < (l.length : Int)
  ·have HRr := am (Kd.C_below HR.out HB.out)
   obtain ⟨ad2, A4, c4, ead2, hx0, hx1, hx2, hx3, hx4, hl4, hi4⟩ := at_T34 HRr.out (m : Int) (by omega) c1
   subst ead2
   rw [Int.toNat_natCast] at hx0 hx1 hx2 hx3 hx4
   have p1 : (0 ≤ (m : Int)) = True := eq_true (by omega)
   have q2 : ((m : Int) < (l.length : Int)) = True := eq_true c1
   have q2b : decide ((m : Int) < (l.length : Int)) = true := decide_eq_true c1
   have HML := am (show m < l.length by omega)
   have hA := HA.out
   have hxe : l[m]'(HML.out) = rd_T34 l (m : Int) := by simp [rd_T34, List.getD, List.getElem?_eq_getElem HML.out]
   rw [List.drop_eq_getElem_cons HML.out, idxFrom, hxe] at hA
   have hwm : wrap64 ((m : Int) + 1) = (m : Int) + 1 := by have := HL.out; have := HML.out; unfold wrap64; omega
   clear c1 hxe HA hl4 hi4
   by_cases c2 : (rd_T34 l (m : Int)).f0.toList = id.toList
   ·rw [if_pos c2] at hA
    subst hA
    have c2b : ((rd_T34 l (m : Int)).f0.toList == id.toList) = true := beq_iff_eq.mpr c2
    clear c2
    go_wp2_with (first | (go_at_call 70; refine (lexicon_Index1.calls _ _ _ _ id _ _ _ b _ (pw_cell_below HB.out HBC.out)).mono ?_; rintro e w2 ⟨rfl, hbel⟩; have HB2 := am (below_step HB.out hbel); clear hbel))
    go_ret
    exact ⟨rfl, HB2.out⟩
   rw [if_neg c2] at hA
   have HA' := am hA
   have c2b : ((rd_T34 l (m : Int)).f0.toList == id.toList) = false := beq_eq_false_iff_ne.mpr c2
   clear c2 hA
   go_wp2_with (first | (go_at_call 70; refine (lexicon_Index1.calls _ _ _ _ id _ _ _ b _ (pw_cell_below HB.out HBC.out)).mono ?_; rintro e w2 ⟨rfl, hbel⟩; have HB2 := am (below_step HB.out hbel); clear hbel))
   go_roundg k1
   case measure => omega
   case rel => exact ⟨m + 1, by first | rfl | (rw [hwm]; rfl), ⟨HML.out⟩, ⟨by have := HK.out; have := HML.out; omega⟩, HA', HB2⟩
  obtain rfl : m = l.length := by have := HM.out; omega
  have q2b : decide ((l.length : Int) < (l.length : Int)) = false := decide_eq_false c1
  have hA := HA.out
  rw [List.drop_eq_nil_of_le (Nat.le_refl _), idxFrom] at hA
  subst hA
  clear c1
  go_wp2
  go_ret
  exact ⟨rfl, HB.out⟩
theorem lexicon_Index.calls (A0 : Option Addr) (c0 : Nat) (l : List S34) (id : ByteArray) (r : Int) (w : World) (hr0 : Kd.C k34 w A0 l.length l) (hc0 : l.length ≤ c0) (h : lexicon_Index.f l id = some r) :
  Calls Tryz.prog 43 #[.slice A0 l.length c0, .string id] w fun e w' => e = .returned (.int .i64 r) ∧ Below w.heap.size w w' := by
 unfold lexicon_Index.f at h
 by_cases h1 : (l.length : Int) ≤ 1000000
 ·rw [if_pos h1] at h
  obtain rfl := Option.some.inj h
  have HR := am hr0
  have HC := am hc0
  have HL := am h1
  clear hr0 hc0 h1 h
  go_enter Tryz.func43, Tryz.ntmps43
  go_wp2_with (first | (go_at_call 69; refine (lexicon_IndexFunc.calls A0 c0 l id w.heap.size _ (Kd.C_below HR.out (below_alloc (Below.refl _ _) _)) HC.out HL.out ((blk_cell (blk_new w _) 0).trans rfl)).mono ?_; rintro e w2 ⟨rfl, hbel⟩; have HB2 := am (below_step (below_alloc (Below.refl _ _) _) hbel); clear hbel))
  go_ret
  exact ⟨rfl, HB2.out⟩
 rw [if_neg h1] at h
 exact absurd h (by simp)
theorem clip_Feature.calls (A : Option Addr) (n c : Nat) (w : World) (hc : n ≤ c) (hA : A = none → n = 0 ∧ c = 0) :
  Calls Tryz.prog 71 #[.slice A n c] w fun e w' => e = .returned (.slice A n n) ∧ Below w.heap.size w w' := by
 have p1 : (0 ≤ (n : Int)) = True := eq_true (by omega)
 have p2 : ((n : Int) ≤ (c : Int)) = True := eq_true (by omega)
 cases A with
 | none =>
  obtain ⟨rfl, rfl⟩ := hA rfl
  go_enter Tryz.func71, Tryz.ntmps71
  go_wp2
  go_ret
  exact ⟨rfl, Below.refl _ _⟩
 | some ad =>
  go_enter Tryz.func71, Tryz.ntmps71
  go_wp2
  go_ret
  exact ⟨by first | rfl | simp, Below.refl _ _⟩
theorem lexicon_copied.calls (s0 s1 s2 s3 : ByteArray) (A4 : Option Addr) (c4 : Nat) (fs : List S65) (w : World) (hr : Kd.C k65 w A4 fs.length fs) (hc : fs.length ≤ c4) (hl : (fs.length : Int) ≤ 1000000) :
  Calls Tryz.prog 44 #[.agg #[.string s0, .string s1, .string s2, .string s3, .slice A4 fs.length c4]] w fun e w' => ∃ A c, e = .returned (.agg #[.string s0, .string s1, .string s2, .string s3, .slice A fs.length c]) ∧ fs.length ≤ c ∧ Kd.V k65 65 w' 0 (fun k => w.heap.size ≤ k) (.slice A fs.length c) fs ∧ Below w.heap.size w w' := by
 have HR := am hr
 have HC := am hc
 have HL := am hl
 clear hr hc hl
 have hf : api_Feature_72.f fs = some fs := if_pos HL.out
 have HF := am hf
 clear hf
 go_enter Tryz.func44, Tryz.ntmps44
 go_wp2_with (first | (go_at_call 72; refine (api_Feature_72.calls A4 c4 fs fs _ (Kd.C_below HR.out (below_alloc (below_alloc (Below.refl _ _) _) _)) HC.out HF.out).mono ?_; rintro e w1 ⟨v0, rfl, hR, hb⟩; have HB1 := am (below_step (below_alloc (below_alloc (Below.refl _ _) _) _) hb); obtain ⟨A, c, rfl, hlc, hrd⟩ := Kd.R_reads hR; have hnn : A = none → fs.length = 0 ∧ c = 0 := (by rcases hR with ⟨_, inner, ⟨_, (⟨he, _⟩ | ⟨g, cap, cur, he, _⟩)⟩, _⟩ <;> (rintro rfl; injection he with h1 h2 h3; first | exact ⟨h2, h3⟩ | cases h1)); have HA := am hnn; have HLC := am hlc; have HRD := am hrd; have B1 := am (blk_below (blk_alloc (blk_new w _) _) hb); have B2 := am (blk_below (blk_snd w _ _) hb); have HOWN := am (Kd.R_bound hR); clear hnn hlc hrd hR hb) | (go_at_call 71; refine (clip_Feature.calls A fs.length c _ HLC.out HA.out).mono ?_; rintro e w2 ⟨rfl, hb⟩; have HB2 := am (below_step HB1.out hb); have HO2 := am (Kd.R_below HOWN.out hb); have D1 := am (blk_below B1.out hb); have D2 := am (blk_below B2.out hb); have hx0 : w2.cell? ⟨w.heap.size, 0, none⟩ = some (.string s0) := (blk_cell D1.out 0).trans rfl; have hf0 : w2.frozen? ⟨w.heap.size, 0, none⟩ = false := blk_frozen D1.out 0; have hy0 : w2.cell? ⟨w.heap.size + 1, 0, none⟩ = some (.string (⟨#[]⟩ : ByteArray)) := (blk_cell D2.out 0).trans rfl; have hg0 : w2.frozen? ⟨w.heap.size + 1, 0, none⟩ = false := blk_frozen D2.out 0; have hx1 : w2.cell? ⟨w.heap.size, 1, none⟩ = some (.string s1) := (blk_cell D1.out 1).trans rfl; have hf1 : w2.frozen? ⟨w.heap.size, 1, none⟩ = false := blk_frozen D1.out 1; have hy1 : w2.cell? ⟨w.heap.size + 1, 1, none⟩ = some (.string (⟨#[]⟩ : ByteArray)) := (blk_cell D2.out 1).trans rfl; have hg1 : w2.frozen? ⟨w.heap.size + 1, 1, none⟩ = false := blk_frozen D2.out 1; have hx2 : w2.cell? ⟨w.heap.size, 2, none⟩ = some (.string s2) := (blk_cell D1.out 2).trans rfl; have hf2 : w2.frozen? ⟨w.heap.size, 2, none⟩ = false := blk_frozen D1.out 2; have hy2 : w2.cell? ⟨w.heap.size + 1, 2, none⟩ = some (.string (⟨#[]⟩ : ByteArray)) := (blk_cell D2.out 2).trans rfl; have hg2 : w2.frozen? ⟨w.heap.size + 1, 2, none⟩ = false := blk_frozen D2.out 2; have hx3 : w2.cell? ⟨w.heap.size, 3, none⟩ = some (.string s3) := (blk_cell D1.out 3).trans rfl; have hf3 : w2.frozen? ⟨w.heap.size, 3, none⟩ = false := blk_frozen D1.out 3; have hy3 : w2.cell? ⟨w.heap.size + 1, 3, none⟩ = some (.string (⟨#[]⟩ : ByteArray)) := (blk_cell D2.out 3).trans rfl; have hg3 : w2.frozen? ⟨w.heap.size + 1, 3, none⟩ = false := blk_frozen D2.out 3; have hx4 : w2.cell? ⟨w.heap.size, 4, none⟩ = some (.slice A4 fs.length c4) := (blk_cell D1.out 4).trans rfl; have hf4 : w2.frozen? ⟨w.heap.size, 4, none⟩ = false := blk_frozen D1.out 4; have hy4 : w2.cell? ⟨w.heap.size + 1, 4, none⟩ = some (.slice none 0 0) := (blk_cell D2.out 4).trans rfl; have hg4 : w2.frozen? ⟨w.heap.size + 1, 4, none⟩ = false := blk_frozen D2.out 4; clear hb))
 refine bodyPost_ret (results_c1 rfl _ _ (w.heap.size + 1) 34 #[.string s0, .string s1, .string s2, .string s3, .slice A fs.length fs.length] (0, 0) _ rfl (by refine blk_put (cs := #[.string s0, .string s1, .string s2, .string s3, .slice none 0 0]) ?_ 4 _ rfl; refine blk_put (cs := #[.string s0, .string s1, .string s2, .string (⟨#[]⟩ : ByteArray), .slice none 0 0]) ?_ 3 _ rfl; refine blk_put (cs := #[.string s0, .string s1, .string (⟨#[]⟩ : ByteArray), .string (⟨#[]⟩ : ByteArray), .slice none 0 0]) ?_ 2 _ rfl; refine blk_put (cs := #[.string s0, .string (⟨#[]⟩ : ByteArray), .string (⟨#[]⟩ : ByteArray), .string (⟨#[]⟩ : ByteArray), .slice none 0 0]) ?_ 1 _ rfl; refine blk_put (cs := #[.string (⟨#[]⟩ : ByteArray), .string (⟨#[]⟩ : ByteArray), .string (⟨#[]⟩ : ByteArray), .string (⟨#[]⟩ : ByteArray), .slice none 0 0]) ?_ 0 _ rfl; exact blk_far D2.out (p := ⟨w.heap.size, 4, none⟩) (by show w.heap.size + 1 ≠ w.heap.size; omega) _) (by rfl) Tryz.underlying34 (by kernel_rfl)) rfl ?_
 refine ⟨A, fs.length, rfl, Nat.le_refl _, ?_, ?_⟩
 ·have h2 := Kd.R_mono HO2.out (ok' := fun k => w.heap.size + 2 ≤ k) (fun k hk => by have h1 := hk.2.1; simp only [World.size_alloc] at h1; omega)
  have hV : Kd.V k65 65 w2 0 (fun k => w.heap.size + 2 ≤ k) (.slice A fs.length c) fs := Kd.R_V h2
  obtain ⟨A', c', e, hle, hF⟩ := hV
  injection e with e1 e2 e3
  subst e1
  refine Kd.V_mono (ok := fun k => w.heap.size + 2 ≤ k) ?_ (fun k hk => (by omega : w.heap.size ≤ k))
  repeat (refine Kd.V_far ?_ (fun k hk => by show k ≠ _; simp only; omega) _)
  exact Kd.V_mk (Nat.le_refl _) hF
 repeat (refine below_set ?_ (by omega))
 exact HB2.out
theorem lexicon_Find.none_ (A0 : Option Addr) (c0 : Nat) (l : List S34) (id : ByteArray) (w : World) (hr0 : Kd.C k34 w A0 l.length l) (hc0 : l.length ≤ c0) (hl : (l.length : Int) ≤ 1000000) (hk : idxFrom id l 0 = -1) :
  Calls Tryz.prog 22 #[.slice A0 l.length c0, .string id] w fun e w' => e = .returned (.tuple #[.agg #[.string (⟨#[]⟩ : ByteArray), .string (⟨#[]⟩ : ByteArray), .string (⟨#[]⟩ : ByteArray), .string (⟨#[]⟩ : ByteArray), .slice none 0 0], .bool false]) ∧ Below w.heap.size w w' := by
 have HR := am hr0
 have HC := am hc0
 have HF := am (show lexicon_Index.f l id = some (-1) from (if_pos hl).trans (congrArg some hk))
 clear hr0 hc0 hl hk
 go_enter Tryz.func22, Tryz.ntmps22
 go_wp2_with (first | (go_at_call 43; refine (lexicon_Index.calls A0 c0 l id (-1) _ (Kd.C_below HR.out (below_alloc (Below.refl _ _) _)) HC.out HF.out).mono ?_; rintro e w1 ⟨rfl, hb⟩; have HB1 := am (below_step (below_alloc (Below.refl _ _) _) hb); have B1 := am (blk_below (blk_new w _) hb); have hy0 : w1.cell? ⟨w.heap.size, 0, none⟩ = some (.string (⟨#[]⟩ : ByteArray)) := (blk_cell B1.out 0).trans rfl; have hg0 : w1.frozen? ⟨w.heap.size, 0, none⟩ = false := blk_frozen B1.out 0; have hy1 : w1.cell? ⟨w.heap.size, 1, none⟩ = some (.string (⟨#[]⟩ : ByteArray)) := (blk_cell B1.out 1).trans rfl; have hg1 : w1.frozen? ⟨w.heap.size, 1, none⟩ = false := blk_frozen B1.out 1; have hy2 : w1.cell? ⟨w.heap.size, 2, none⟩ = some (.string (⟨#[]⟩ : ByteArray)) := (blk_cell B1.out 2).trans rfl; have hg2 : w1.frozen? ⟨w.heap.size, 2, none⟩ = false := blk_frozen B1.out 2; have hy3 : w1.cell? ⟨w.heap.size, 3, none⟩ = some (.string (⟨#[]⟩ : ByteArray)) := (blk_cell B1.out 3).trans rfl; have hg3 : w1.frozen? ⟨w.heap.size, 3, none⟩ = false := blk_frozen B1.out 3; have hy4 : w1.cell? ⟨w.heap.size, 4, none⟩ = some (.slice none 0 0) := (blk_cell B1.out 4).trans rfl; have hg4 : w1.frozen? ⟨w.heap.size, 4, none⟩ = false := blk_frozen B1.out 4; clear hb))
 refine bodyPost_ret (results_ct rfl _ _ w.heap.size 34 #[.string (⟨#[]⟩ : ByteArray), .string (⟨#[]⟩ : ByteArray), .string (⟨#[]⟩ : ByteArray), .string (⟨#[]⟩ : ByteArray), .slice none 0 0] (0, 0) _ rfl (bp B1) Tryz.underlying34 rfl (by kernel_rfl)) rfl ?_
 refine ⟨rfl, ?_⟩
 repeat (refine below_set ?_ (Nat.le_refl _))
 exact HB1.out
theorem lexicon_Find.some_ (A0 : Option Addr) (c0 : Nat) (l : List S34) (id : ByteArray) (k : Nat) (w : World) (hr0 : Kd.C k34 w A0 l.length l) (hc0 : l.length ≤ c0) (hl : (l.length : Int) ≤ 1000000) (hk : idxFrom id l 0 = (k : Int)) (hkl : k < l.length) (hf : ((rd_T34 l (k : Int)).f4.length : Int) ≤ 1000000) :
  Calls Tryz.prog 22 #[.slice A0 l.length c0, .string id] w fun e w' => ∃ A c, e = .returned (.tuple #[.agg #[.string (rd_T34 l (k : Int)).f0, .string (rd_T34 l (k : Int)).f1, .string (rd_T34 l (k : Int)).f2, .string (rd_T34 l (k : Int)).f3, .slice A (rd_T34 l (k : Int)).f4.length c], .bool true]) ∧ (rd_T34 l (k : Int)).f4.length ≤ c ∧ Kd.V k65 65 w' 0 (fun k => w.heap.size ≤ k) (.slice A (rd_T34 l (k : Int)).f4.length c) (rd_T34 l (k : Int)).f4 ∧ Below w.heap.size w w' := by
 have HR := am hr0
 have HC := am hc0
 have HF := am (show lexicon_Index.f l id = some (k : Int) from (if_pos hl).trans (congrArg some hk))
 have HFL := am hf
 obtain ⟨ad, A4, c4, ead, hx0, hx1, hx2, hx3, hx4, hl4, hi4⟩ := at_T34 hr0 (k : Int) (by omega) (by omega)
 subst ead
 rw [Int.toNat_natCast] at hx0 hx1 hx2 hx3 hx4
 have X0 := am hx0
 have X1 := am hx1
 have X2 := am hx2
 have X3 := am hx3
 have X4 := am hx4
 have L4 := am hl4
 have I4 := am hi4
 have p1 : (0 ≤ (k : Int)) = True := eq_true (by omega)
 have q2 : ((k : Int) < (l.length : Int)) = True := eq_true (by omega)
 have q3 : decide (0 ≤ (k : Int)) = true := decide_eq_true (by omega)
 clear hr0 hc0 hl hk hkl hf hx0 hx1 hx2 hx3 hx4 hl4 hi4
 go_enter Tryz.func22, Tryz.ntmps22
 go_wp2_with (first | (go_at_call 43; refine (lexicon_Index.calls (some ad) c0 l id (k : Int) _ (Kd.C_below HR.out (below_alloc (Below.refl _ _) _)) HC.out HF.out).mono ?_; rintro e w1 ⟨rfl, hb⟩; have HB1 := am (below_step (below_alloc (Below.refl _ _) _) hb); have B1 := am (blk_below (blk_new w _) hb); have hx0 := pw_cell_below HB1.out X0.out; have hx1 := pw_cell_below HB1.out X1.out; have hx2 := pw_cell_below HB1.out X2.out; have hx3 := pw_cell_below HB1.out X3.out; have hx4 := pw_cell_below HB1.out X4.out; clear hb) | (go_at_call 44; refine (lexicon_copied.calls _ _ _ _ A4 c4 _ _ (Kd.C_below I4.out HB1.out) L4.out HFL.out).mono ?_; rintro e w2 ⟨A, c, rfl, hlc, hrd, hb⟩; have HB2 := am (below_step HB1.out hb); have B2 := am (blk_below B1.out hb); have HLC := am hlc; have HRD := am hrd; have hy0 : w2.cell? ⟨w.heap.size, 0, none⟩ = some (.string (⟨#[]⟩ : ByteArray)) := (blk_cell B2.out 0).trans rfl; have hg0 : w2.frozen? ⟨w.heap.size, 0, none⟩ = false := blk_frozen B2.out 0; have hy1 : w2.cell? ⟨w.heap.size, 1, none⟩ = some (.string (⟨#[]⟩ : ByteArray)) := (blk_cell B2.out 1).trans rfl; have hg1 : w2.frozen? ⟨w.heap.size, 1, none⟩ = false := blk_frozen B2.out 1; have hy2 : w2.cell? ⟨w.heap.size, 2, none⟩ = some (.string (⟨#[]⟩ : ByteArray)) := (blk_cell B2.out 2).trans rfl; have hg2 : w2.frozen? ⟨w.heap.size, 2, none⟩ = false := blk_frozen B2.out 2; have hy3 : w2.cell? ⟨w.heap.size, 3, none⟩ = some (.string (⟨#[]⟩ : ByteArray)) := (blk_cell B2.out 3).trans rfl; have hg3 : w2.frozen? ⟨w.heap.size, 3, none⟩ = false := blk_frozen B2.out 3; have hy4 : w2.cell? ⟨w.heap.size, 4, none⟩ = some (.slice none 0 0) := (blk_cell B2.out 4).trans rfl; have hg4 : w2.frozen? ⟨w.heap.size, 4, none⟩ = false := blk_frozen B2.out 4; clear hb hlc hrd))
 refine bodyPost_ret (results_ct rfl _ _ w.heap.size 34 #[.string (rd_T34 l (k : Int)).f0, .string (rd_T34 l (k : Int)).f1, .string (rd_T34 l (k : Int)).f2, .string (rd_T34 l (k : Int)).f3, .slice A (rd_T34 l (k : Int)).f4.length c] (0, 0) _ rfl (bp B2) Tryz.underlying34 rfl (by kernel_rfl)) rfl ?_
 refine ⟨A, c, rfl, HLC.out, ?_, ?_⟩
 ·refine Kd.V_mono (ok := fun k => w1.heap.size ≤ k) ?_ (fun k hk => (by have := HB1.out.size; omega : w.heap.size ≤ k))
  have hlt := blk_lt B1.out
  repeat (refine Kd.V_far ?_ (fun k hk => by have hk' : w1.heap.size ≤ k := hk; show k ≠ w.heap.size; omega) _)
  exact HRD.out
 repeat (refine below_set ?_ (Nat.le_refl _))
 exact HB2.out
theorem lexicon_Find.calls (P0_ : Nat → Prop) (A0 : Option Addr) (c0 : Nat) (l0 : List S34) (a1 : ByteArray) (r1 r2 r3 r4 : ByteArray) (r5 : List S65) (r6 : Bool) (w : World) (hs0 : Kd.V k34 34 w w.heap.size (fun k_ => P0_ k_) (.slice A0 l0.length c0) l0) (h : lexicon_Find.f l0 a1 = some (r1, r2, r3, r4, r5, r6)) :
  Calls Tryz.prog 22 #[.slice A0 l0.length c0, .string a1] w fun e w' => ∃ v1_ : Value, e = .returned (.tuple #[.agg #[.string r1, .string r2, .string r3, .string r4, v1_], .bool r6]) ∧ Kd.V k65 65 w' w.heap.size (fun k_ => (P0_ k_ ∨ w.heap.size ≤ k_)) v1_ r5 ∧ Below w.heap.size w w' := by
 obtain ⟨_, hc, hr⟩ := Kd.V_reads' hs0
 unfold lexicon_Find.f at h
 split at h
 ·rename_i h1
  split at h
  ·rename_i h2
   split at h
   ·rename_i h3
    obtain ⟨k, hk⟩ : ∃ k : Nat, idxFrom a1 l0 0 = (k : Int) := ⟨(idxFrom a1 l0 0).toNat, by omega⟩
    have hlt := idxFrom_lt a1 l0 0
    rw [hk] at h h3 hlt
    simp only [Option.some.injEq, Prod.mk.injEq] at h
    obtain ⟨rfl, rfl, rfl, rfl, rfl, rfl⟩ := h
    refine (lexicon_Find.some_ A0 c0 l0 a1 k w hr hc h1 hk (by omega) h3).mono ?_
    rintro e w' ⟨A, c, he, hl, hv, hb⟩
    exact ⟨_, he, Kd.V_mono (show Kd.V k65 65 w' w.heap.size (fun k => w.heap.size ≤ k) (.slice A (rd_T34 l0 (k : Int)).f4.length c) (rd_T34 l0 (k : Int)).f4 from hv) (fun k hk => .inr hk), hb⟩
   cases h
  rename_i h2
  simp only [Option.some.injEq, Prod.mk.injEq] at h
  obtain ⟨rfl, rfl, rfl, rfl, rfl, rfl⟩ := h
  refine (lexicon_Find.none_ A0 c0 l0 a1 w hr hc h1 (idxFrom_neg a1 l0 0 h2)).mono ?_
  rintro e w' ⟨he, hb⟩
  exact ⟨_, he, Kd.V_nil _ _ _ _ _, hb⟩
 cases h
theorem morphology_words_paradigm.calls (k : Nat) (A0_0 : Option Addr) (c0_0 : Nat) (l0_0 : List (S48)) (A0_1 : Option Addr) (c0_1 : Nat) (l0_1 : List (S89)) (P0_2_ : Nat → Prop) (A0_2 : Option Addr) (c0_2 : Nat) (l0_2 : List (S38)) (A0_3 : Option Addr) (c0_3 : Nat) (l0_3 : List (S34)) (a1 : ByteArray) (r1 : ByteArray) (r2 : List (S55)) (r3 : List (List (S79))) (r4 : Bool) (w : World) (hr0_0 : Kd.C k48 w A0_0 l0_0.length l0_0) (hc0_0 : l0_0.length ≤ c0_0) (hr0_1 : Kd.C k89 w A0_1 l0_1.length l0_1) (hc0_1 : l0_1.length ≤ c0_1) (hs0_2 : Kd.V k38 38 w w.heap.size (fun k_ => P0_2_ k_) (.slice A0_2 l0_2.length c0_2) l0_2) (hr0_3 : Kd.C k34 w A0_3 l0_3.length l0_3) (hc0_3 : l0_3.length ≤ c0_3) (h : morphology_words_paradigm.f k l0_0 l0_1 l0_2 l0_3 a1 = some (r1, r2, r3, r4)) :
  Calls Tryz.prog 17 #[.agg #[.slice A0_0 l0_0.length c0_0, .slice A0_1 l0_1.length c0_1, .slice A0_2 l0_2.length c0_2, .slice A0_3 l0_3.length c0_3], .string a1] w fun e w' => ∃ v1_ v2_ : Value, e = .returned (.tuple #[.agg #[.string r1, v1_, v2_], .bool r4]) ∧ Kd.V k55 55 w' w.heap.size (fun k_ => (P0_2_ k_ ∨ w.heap.size ≤ k_)) v1_ r2 ∧ Kd.V (Kd.slice 79 k79) 80 w' w.heap.size (fun k_ => (P0_2_ k_ ∨ w.heap.size ≤ k_)) v2_ r3 ∧ Below w.heap.size w w' := by
 have hu58 := Tryz.underlying58
 have hu38 := Tryz.underlying38
 have HR0_0 := am hr0_0
 have HC0_0 := am hc0_0
 clear hr0_0 hc0_0
 have HR0_1 := am hr0_1
 have HC0_1 := am hc0_1
 clear hr0_1 hc0_1
 have HO0_2 := am (show Kd.V k38 38 w w.heap.size (fun k_ => (P0_2_ k_ ∨ w.heap.size ≤ k_)) (.slice A0_2 l0_2.length c0_2) l0_2 from Kd.V_mono hs0_2 (fun k_ hk => .inl hk))
 have HR0_3 := am hr0_3
 have HC0_3 := am hc0_3
 clear hr0_3 hc0_3
 have HB := am (Below.refl w.heap.size w)
 have H : (morphology_words_paradigm.l0 k a1 l0_2 (l0_2.length : Int) 0) = some (r1, r2, r3, r4) := h
 clear h
 have H' := am H
 clear H
 go_enter Tryz.func17, Tryz.ntmps17
 go_wp2_with (first | ((with_reducible refine gate_dst (N := 2) rfl ?_); refine bx 2 #[.slice A0_0 l0_0.length c0_0, .slice A0_1 l0_1.length c0_1, .slice A0_2 l0_2.length c0_2, .slice A0_3 l0_3.length c0_3] 58 ?_; intro gb291 hg w3 hbox hb; have BK291 := am hbox; have GE291 := sz hg; replace HO0_2 := am (Kd.V_below (Kd.V_elderB (rV HO0_2) gb291 (Nat.le_of_eq hg.symm)) hb); replace HB := bs hb; clear hb hbox hg) | ((with_reducible refine gate_dst (N := 4) rfl ?_); refine bx 4 #[.string (⟨#[]⟩ : ByteArray), .slice none 0 0, .slice none 0 0] 38 ?_; intro gb292 hg w4 hbox hb; have BK292 := am hbox; have GE292 := sz hg; have NB291_292 := nl hg BK291; have NB292_291 := ng hg BK291; replace HO0_2 := am (Kd.V_below (Kd.V_elderB (rV HO0_2) gb292 (Nat.le_of_eq hg.symm)) hb); replace BK291 := bk BK291 hb; replace HB := bs hb; clear hb hbox hg; have hnb5 := NB291_292.out; have hnc5 := NB292_291.out; obtain ⟨zaa, zab, zac, zad, zae, zaf, zag, zah⟩ := bc4 BK291))
 go_loopg [12] k (fun kq v12 w' => ∃ (x12_1 : Int) (x293000_1 : ByteArray), v12 = .int .i64 x12_1 ∧ Aside0 (morphology_words_paradigm.l0 kq a1 l0_2 (l0_2.length : Int) x12_1 = some (r1, r2, r3, r4)) ∧ Aside0 (kq ≤ k) ∧ Aside0 (Kd.V k38 38 w' w.heap.size (fun k_ => (P0_2_ k_ ∨ w.heap.size ≤ k_) ∧ k_ ≠ gb291 ∧ k_ ≠ gb292) (.slice A0_2 l0_2.length c0_2) l0_2) ∧ Aside0 (Kd.V k38 38 w' w.heap.size (fun k_ => (P0_2_ k_ ∨ w.heap.size ≤ k_) ∧ k_ ≠ gb291 ∧ k_ ≠ gb292) (.slice A0_2 l0_2.length c0_2) l0_2) ∧ Aside0 (w'.heap[gb291]? = some (.cells #[(.slice A0_0 l0_0.length c0_0), (.slice A0_1 l0_1.length c0_1), (.slice A0_2 l0_2.length c0_2), (.slice A0_3 l0_3.length c0_3)] 58 (0, 0))) ∧ Aside0 (w'.heap[gb292]? = some (.cells #[.string x293000_1, (.slice none 0 0), (.slice none 0 0)] 38 (0, 0))) ∧ Aside0 (Below w.heap.size w w'))
 case atStart => exact ⟨(0), ((⟨#[]⟩ : ByteArray)), rq, H', ⟨Nat.le_refl _⟩, ⟨rW (Kd.V_mono HO0_2.out (fun _ hk => ⟨hk.1.1, ⟨hk.1.2, hk.2⟩⟩))⟩, ⟨rW (Kd.V_mono HO0_2.out (fun _ hk => ⟨hk.1.1, ⟨hk.1.2, hk.2⟩⟩))⟩, ⟨bd BK291⟩, ⟨bd BK292⟩, ⟨bq⟩⟩
 case round =>
  clear H'
  clear zaa zab zac zad zae zaf zag zah
  obtain ⟨x12_1, x293000_1, rfl, HA, HK1, HO_10, HO_292002, BK291, BK292, HB⟩ := hrel
  cases gk with
  | zero => exact absurd HA.out (by simp [morphology_words_paradigm.l0])
  | succ k1 =>
   have H := HA.out
   clear HA
   simp only [morphology_words_paradigm.l0] at H
   by_cases c7 : x12_1 < (l0_2.length : Int)
   ·rw [if_pos c7] at H
    have c7b0 : decide (x12_1 < (l0_2.length : Int)) = true := decide_eq_true c7
    clear c7
    by_cases c8 : 0 ≤ x12_1
    ·rw [if_pos c8] at H
     have c8b0 : decide (0 ≤ x12_1) = true := decide_eq_true c8
     clear c8
     by_cases c9 : x12_1 < (l0_2.length : Int)
     ·rw [if_pos c9] at H
      have c9b0 : decide (x12_1 < (l0_2.length : Int)) = true := decide_eq_true c9
      clear c9
      by_cases c10 : ((rd_T38 l0_2 x12_1).f0).toList = a1.toList
      ·rw [if_pos c10] at H
       have c10b0 : (((rd_T38 l0_2 x12_1).f0).toList == a1.toList) = true := beq_iff_eq.mpr c10
       have c10b1 : (((rd_T38 l0_2 x12_1).f0).toList != a1.toList) = false := bne_eq_false_iff_eq.mpr c10
       clear c10
       simp only [Option.some.injEq, Prod.mk.injEq] at H
       obtain ⟨rfl, rfl, rfl, rfl⟩ := H
       have p293 : 0 ≤ (x12_1 : Int) := oq
       have q293 : x12_1 < (l0_2.length : Int) := oq
       obtain ⟨ad293, A293_1, c293_1, A293_2, c293_2, e293, hx293_0, hx293_1, hx293_2, hl293_1, hi293_1, hl293_2, hi293_2⟩ := at_T38 (Kd.V_reads' HO_10.out).2.2 x12_1 p293 q293
       cases e293
       obtain ⟨ce293, hce293, hMe293, hcc293⟩ := Kd.V_get HO_10.out z38 x12_1 p293 (by first | exact q293 | exact oq | (have e_ := (Kd.V_reads' HO_10.out).1; omega))
       obtain ⟨ua293_1, uc293_1, ua293_2, uc293_2, rfl, ul293_1, ge293_1, ul293_2, ge293_2⟩ := k38_openF hMe293
       have hv293_1 := hcc293 1 _ rfl
       rw [add_field _ _ 1 (by omega)] at hv293_1
       replace hv293_1 := Option.some.inj (hv293_1.symm.trans hx293_1)
       injection hv293_1 with hva_ hvn_ hvc_
       rw [hva_] at ge293_1
       rw [hvc_] at ul293_1
       have HL293_1 := am (show Kd.V k55 55 _ w.heap.size _ _ ((rd_T38 l0_2 x12_1).f1) from Kd.V_mk ul293_1 ge293_1)
       clear hva_ hvn_ hvc_ ge293_1 ul293_1
       have hv293_2 := hcc293 2 _ rfl
       rw [add_field _ _ 2 (by omega)] at hv293_2
       replace hv293_2 := Option.some.inj (hv293_2.symm.trans hx293_2)
       injection hv293_2 with hva_ hvn_ hvc_
       rw [hva_] at ge293_2
       rw [hvc_] at ul293_2
       have HL293_2 := am (show Kd.V (Kd.slice 79 k79) 80 _ w.heap.size _ _ ((rd_T38 l0_2 x12_1).f2) from Kd.V_mk ul293_2 ge293_2)
       clear hva_ hvn_ hvc_ ge293_2 ul293_2
       clear hcc293 hce293
       have HR293_1 := am hi293_1
       have HC293_1 := am hl293_1
       clear hi293_1 hl293_1
       have HR293_2 := am hi293_2
       have HC293_2 := am hl293_2
       clear hi293_2 hl293_2
       replace p293 := eq_true p293
       replace q293 := eq_true q293
       go_wp2_with (first | ((with_reducible refine gate_dst (N := 7) rfl ?_); refine bx 7 #[.string (⟨#[]⟩ : ByteArray), .slice none 0 0, .slice none 0 0] 38 ?_; intro gb294 hg w11 hbox hb; have BK294 := am hbox; have GE294 := sz hg; have NB291_294 := nl hg BK291; have NB294_291 := ng hg BK291; have NB292_294 := nl hg BK292; have NB294_292 := ng hg BK292; replace HO_10 := am (Kd.V_below (Kd.V_elderB (rV HO_10) gb294 (Nat.le_of_eq hg.symm)) hb); replace HO_292002 := am (Kd.V_below (Kd.V_elderB (rV HO_292002) gb294 (Nat.le_of_eq hg.symm)) hb); replace HL293_1 := am (Kd.V_below (Kd.V_elderB (rV HL293_1) gb294 (Nat.le_of_eq hg.symm)) hb); replace HL293_2 := am (Kd.V_below (Kd.V_elderB (rV HL293_2) gb294 (Nat.le_of_eq hg.symm)) hb); replace BK291 := bk BK291 hb; replace BK292 := bk BK292 hb; replace HR293_1 := am (Kd.C_below (by repeat (first | (with_reducible exact HR293_1.out) | (with_reducible refine Kd.C_alloc ?_ _) | (with_reducible refine Kd.C_drewN ?_ _) | (with_reducible refine Kd.C_drew ?_) | exact HR293_1.out)) hb); replace HR293_2 := am (Kd.C_below (by repeat (first | (with_reducible exact HR293_2.out) | (with_reducible refine Kd.C_alloc ?_ _) | (with_reducible refine Kd.C_drewN ?_ _) | (with_reducible refine Kd.C_drew ?_) | exact HR293_2.out)) hb); replace HB := bs hb; clear hb hbox hg; have hnb12 := NB294_291.out; have hnc12 := NB291_294.out; have hnb13 := NB294_292.out; have hnc13 := NB292_294.out; obtain ⟨zai, zaj, zak, zal, zam, zan⟩ := bc3 BK294; have hnb15 := NB292_291.out; have hnc15 := NB291_292.out; obtain ⟨zao, zap, zaq, zar, zas, zat⟩ := bc3 BK292))
       refine bodyPost_ret (results_ct rfl _ _ gb292 38 #[.string ((rd_T38 l0_2 x12_1).f0), .slice A293_1 ((rd_T38 l0_2 x12_1).f1).length c293_1, .slice A293_2 ((rd_T38 l0_2 x12_1).f2).length c293_2] (0, 0) _ rfl (by (with_reducible repeat (first | refine blk_drewN ?_ _ | refine blk_drew ?_ | refine blk_alloc ?_ _)); refine blk_put (cs := #[.string ((rd_T38 l0_2 x12_1).f0), .slice A293_1 ((rd_T38 l0_2 x12_1).f1).length c293_1, .slice none 0 0]) ?_ 2 _ rfl; (with_reducible repeat (first | refine blk_drewN ?_ _ | refine blk_drew ?_ | refine blk_alloc ?_ _)); refine blk_put (cs := #[.string ((rd_T38 l0_2 x12_1).f0), .slice none 0 0, .slice none 0 0]) ?_ 1 _ rfl; (with_reducible repeat (first | refine blk_drewN ?_ _ | refine blk_drew ?_ | refine blk_alloc ?_ _)); refine blk_put (cs := #[.string x293000_1, .slice none 0 0, .slice none 0 0]) ?_ 0 _ rfl; (with_reducible repeat (first | refine blk_drewN ?_ _ | refine blk_drew ?_ | refine blk_alloc ?_ _)); refine blk_far ?_ NB292_294.out _; (with_reducible repeat (first | refine blk_drewN ?_ _ | refine blk_drew ?_ | refine blk_alloc ?_ _)); refine blk_far ?_ NB292_294.out _; (with_reducible repeat (first | refine blk_drewN ?_ _ | refine blk_drew ?_ | refine blk_alloc ?_ _)); refine blk_far ?_ NB292_294.out _; (with_reducible repeat (first | refine blk_drewN ?_ _ | refine blk_drew ?_ | refine blk_alloc ?_ _)); exact BK292.out) Tryz.underlying38 rfl (by kernel_rfl)) rfl ?_
       exact ⟨_, _, eq', by (with_reducible repeat (first | apply Kd.V_alloc | apply Kd.V_drewN | apply Kd.V_drew)); exact Kd.V_mono (Kd.V_far (p := ⟨gb292, 2, none⟩) (Kd.V_far (p := ⟨gb292, 1, none⟩) (Kd.V_far (p := ⟨gb292, 0, none⟩) (Kd.V_far (p := ⟨gb294, 2, none⟩) (Kd.V_far (p := ⟨gb294, 1, none⟩) (Kd.V_far (p := ⟨gb294, 0, none⟩) (Kd.V_mono (Kd.V_mono HL293_1.out (fun k_ hk => (⟨hk, hk.2⟩ : _ ∧ k_ ≠ gb294))) (fun k_ hk => (⟨hk, hk.1.1.2.2⟩ : _ ∧ k_ ≠ gb292))) (fun _ hk => hk.1.2) (.string ((rd_T38 l0_2 x12_1).f0))) (fun _ hk => hk.1.2) (.slice A293_1 ((rd_T38 l0_2 x12_1).f1).length c293_1)) (fun _ hk => hk.1.2) (.slice A293_2 ((rd_T38 l0_2 x12_1).f2).length c293_2)) (fun _ hk => hk.2) (.string ((rd_T38 l0_2 x12_1).f0))) (fun _ hk => hk.2) (.slice A293_1 ((rd_T38 l0_2 x12_1).f1).length c293_1)) (fun _ hk => hk.2) (.slice A293_2 ((rd_T38 l0_2 x12_1).f2).length c293_2)) (fun _ hk => hk.1.1.1.1), by (with_reducible repeat (first | apply Kd.V_alloc | apply Kd.V_drewN | apply Kd.V_drew)); exact Kd.V_mono (Kd.V_far (p := ⟨gb292, 2, none⟩) (Kd.V_far (p := ⟨gb292, 1, none⟩) (Kd.V_far (p := ⟨gb292, 0, none⟩) (Kd.V_far (p := ⟨gb294, 2, none⟩) (Kd.V_far (p := ⟨gb294, 1, none⟩) (Kd.V_far (p := ⟨gb294, 0, none⟩) (Kd.V_mono (Kd.V_mono HL293_2.out (fun k_ hk => (⟨hk, hk.2⟩ : _ ∧ k_ ≠ gb294))) (fun k_ hk => (⟨hk, hk.1.1.2.2⟩ : _ ∧ k_ ≠ gb292))) (fun _ hk => hk.1.2) (.string ((rd_T38 l0_2 x12_1).f0))) (fun _ hk => hk.1.2) (.slice A293_1 ((rd_T38 l0_2 x12_1).f1).length c293_1)) (fun _ hk => hk.1.2) (.slice A293_2 ((rd_T38 l0_2 x12_1).f2).length c293_2)) (fun _ hk => hk.2) (.string ((rd_T38 l0_2 x12_1).f0))) (fun _ hk => hk.2) (.slice A293_1 ((rd_T38 l0_2 x12_1).f1).length c293_1)) (fun _ hk => hk.2) (.slice A293_2 ((rd_T38 l0_2 x12_1).f2).length c293_2)) (fun _ hk => hk.1.1.1.1), bq⟩
      rw [if_neg c10] at H
      have c10b0 : (((rd_T38 l0_2 x12_1).f0).toList == a1.toList) = false := beq_eq_false_iff_ne.mpr c10
      have c10b1 : (((rd_T38 l0_2 x12_1).f0).toList != a1.toList) = true := bne_iff_ne.mpr c10
      have H' := am H
      clear H
      have p293 : 0 ≤ (x12_1 : Int) := oq
      have q293 : x12_1 < (l0_2.length : Int) := oq
      obtain ⟨ad293, A293_1, c293_1, A293_2, c293_2, e293, hx293_0, hx293_1, hx293_2, hl293_1, hi293_1, hl293_2, hi293_2⟩ := at_T38 (Kd.V_reads' HO_10.out).2.2 x12_1 p293 q293
      cases e293
      obtain ⟨ce293, hce293, hMe293, hcc293⟩ := Kd.V_get HO_10.out z38 x12_1 p293 (by first | exact q293 | exact oq | (have e_ := (Kd.V_reads' HO_10.out).1; omega))
      obtain ⟨ua293_1, uc293_1, ua293_2, uc293_2, rfl, ul293_1, ge293_1, ul293_2, ge293_2⟩ := k38_openF hMe293
      have hv293_1 := hcc293 1 _ rfl
      rw [add_field _ _ 1 (by omega)] at hv293_1
      replace hv293_1 := Option.some.inj (hv293_1.symm.trans hx293_1)
      injection hv293_1 with hva_ hvn_ hvc_
      rw [hva_] at ge293_1
      rw [hvc_] at ul293_1
      have HL293_1 := am (show Kd.V k55 55 _ w.heap.size _ _ ((rd_T38 l0_2 x12_1).f1) from Kd.V_mk ul293_1 ge293_1)
      clear hva_ hvn_ hvc_ ge293_1 ul293_1
      have hv293_2 := hcc293 2 _ rfl
      rw [add_field _ _ 2 (by omega)] at hv293_2
      replace hv293_2 := Option.some.inj (hv293_2.symm.trans hx293_2)
      injection hv293_2 with hva_ hvn_ hvc_
      rw [hva_] at ge293_2
      rw [hvc_] at ul293_2
      have HL293_2 := am (show Kd.V (Kd.slice 79 k79) 80 _ w.heap.size _ _ ((rd_T38 l0_2 x12_1).f2) from Kd.V_mk ul293_2 ge293_2)
      clear hva_ hvn_ hvc_ ge293_2 ul293_2
      clear hcc293 hce293
      have HR293_1 := am hi293_1
      have HC293_1 := am hl293_1
      clear hi293_1 hl293_1
      have HR293_2 := am hi293_2
      have HC293_2 := am hl293_2
      clear hi293_2 hl293_2
      replace p293 := eq_true p293
      replace q293 := eq_true q293
      go_wp2_with (first | ((with_reducible refine gate_dst (N := 7) rfl ?_); refine bx 7 #[.string (⟨#[]⟩ : ByteArray), .slice none 0 0, .slice none 0 0] 38 ?_; intro gb294 hg w17 hbox hb; have BK294 := am hbox; have GE294 := sz hg; have NB291_294 := nl hg BK291; have NB294_291 := ng hg BK291; have NB292_294 := nl hg BK292; have NB294_292 := ng hg BK292; replace HO_10 := am (Kd.V_below (Kd.V_elderB (rV HO_10) gb294 (Nat.le_of_eq hg.symm)) hb); replace HO_292002 := am (Kd.V_below (Kd.V_elderB (rV HO_292002) gb294 (Nat.le_of_eq hg.symm)) hb); replace HL293_1 := am (Kd.V_below (Kd.V_elderB (rV HL293_1) gb294 (Nat.le_of_eq hg.symm)) hb); replace HL293_2 := am (Kd.V_below (Kd.V_elderB (rV HL293_2) gb294 (Nat.le_of_eq hg.symm)) hb); replace BK291 := bk BK291 hb; replace BK292 := bk BK292 hb; replace HR293_1 := am (Kd.C_below (by repeat (first | (with_reducible exact HR293_1.out) | (with_reducible refine Kd.C_alloc ?_ _) | (with_reducible refine Kd.C_drewN ?_ _) | (with_reducible refine Kd.C_drew ?_) | exact HR293_1.out)) hb); replace HR293_2 := am (Kd.C_below (by repeat (first | (with_reducible exact HR293_2.out) | (with_reducible refine Kd.C_alloc ?_ _) | (with_reducible refine Kd.C_drewN ?_ _) | (with_reducible refine Kd.C_drew ?_) | exact HR293_2.out)) hb); replace HB := bs hb; clear hb hbox hg; have hnb18 := NB294_291.out; have hnc18 := NB291_294.out; have hnb19 := NB294_292.out; have hnc19 := NB292_294.out; obtain ⟨zau, zav, zaw, zax, zay, zaz⟩ := bc3 BK294))
      go_roundg k1
      case measure => have := HK1.out; omega
      case rel => exact ⟨(wrap64 (x12_1 + 1)), (x293000_1), rq, H', ⟨by have := HK1.out; omega⟩, ⟨rW (Kd.V_mono (Kd.V_far (p := ⟨gb294, 2, none⟩) (Kd.V_far (p := ⟨gb294, 1, none⟩) (Kd.V_far (p := ⟨gb294, 0, none⟩) (Kd.V_mono HO_10.out (fun k_ hk => (⟨hk, hk.2⟩ : _ ∧ k_ ≠ gb294))) (fun _ hk => hk.2) (.string ((rd_T38 l0_2 x12_1).f0))) (fun _ hk => hk.2) (.slice A293_1 ((rd_T38 l0_2 x12_1).f1).length c293_1)) (fun _ hk => hk.2) (.slice A293_2 ((rd_T38 l0_2 x12_1).f2).length c293_2)) (fun _ hk => ⟨hk.1.1.1, ⟨hk.1.1.2.1, hk.1.1.2.2⟩⟩))⟩, ⟨rW (Kd.V_mono (Kd.V_far (p := ⟨gb294, 2, none⟩) (Kd.V_far (p := ⟨gb294, 1, none⟩) (Kd.V_far (p := ⟨gb294, 0, none⟩) (Kd.V_mono HO_292002.out (fun k_ hk => (⟨hk, hk.2⟩ : _ ∧ k_ ≠ gb294))) (fun _ hk => hk.2) (.string ((rd_T38 l0_2 x12_1).f0))) (fun _ hk => hk.2) (.slice A293_1 ((rd_T38 l0_2 x12_1).f1).length c293_1)) (fun _ hk => hk.2) (.slice A293_2 ((rd_T38 l0_2 x12_1).f2).length c293_2)) (fun _ hk => ⟨hk.1.1.1, ⟨hk.1.1.2.1, hk.1.1.2.2⟩⟩))⟩, ⟨bf BK291⟩, ⟨bf BK292⟩, ⟨bq⟩⟩
     rw [if_neg c9] at H
     exact absurd H (by simp)
    rw [if_neg c8] at H
    exact absurd H (by simp)
   rw [if_neg c7] at H
   have c7b0 : decide (x12_1 < (l0_2.length : Int)) = false := decide_eq_false c7
   clear c7
   simp only [Option.some.injEq, Prod.mk.injEq] at H
   obtain ⟨rfl, rfl, rfl, rfl⟩ := H
   have hnb21 := NB292_291.out
   have hnc21 := NB291_292.out
   obtain ⟨zba, zbb, zbc, zbd, zbe, zbf⟩ := bc3 BK292
   go_wp2
   refine bodyPost_ret (results_ct rfl _ _ gb292 38 #[.string (⟨#[]⟩ : ByteArray), .slice none 0 0, .slice none 0 0] (0, 0) _ rfl (bp BK292) Tryz.underlying38 rfl (by kernel_rfl)) rfl ?_
   exact ⟨_, _, eq', Kd.V_nil _ _ _ _ _, Kd.V_nil _ _ _ _ _, bq⟩
theorem morphology_words_form.calls (k : Nat) (A0_0 : Option Addr) (c0_0 : Nat) (l0_0 : List (S48)) (A0_1 : Option Addr) (c0_1 : Nat) (l0_1 : List (S89)) (A0_2 : Option Addr) (c0_2 : Nat) (l0_2 : List (S38)) (A0_3 : Option Addr) (c0_3 : Nat) (l0_3 : List (S34)) (a1_0 : ByteArray) (a1_1 : ByteArray) (a1_2 : ByteArray) (a1_3 : ByteArray) (A1_4 : Option Addr) (c1_4 : Nat) (l1_4 : List (S65)) (A2 : Option Addr) (c2 : Nat) (l2 : List (S65)) (r1 : ByteArray) (r2 : Bool) (w : World) (hr0_0 : Kd.C k48 w A0_0 l0_0.length l0_0) (hc0_0 : l0_0.length ≤ c0_0) (hr0_1 : Kd.C k89 w A0_1 l0_1.length l0_1) (hc0_1 : l0_1.length ≤ c0_1) (hr0_2 : Kd.C k38 w A0_2 l0_2.length l0_2) (hc0_2 : l0_2.length ≤ c0_2) (hr0_3 : Kd.C k34 w A0_3 l0_3.length l0_3) (hc0_3 : l0_3.length ≤ c0_3) (hr1_4 : Kd.C k65 w A1_4 l1_4.length l1_4) (hc1_4 : l1_4.length ≤ c1_4) (hr2 : Kd.C k65 w A2 l2.length l2) (hc2 : l2.length ≤ c2) (hG : Glob w) (h : morphology_words_form.f k l0_0 l0_1 l0_2 l0_3 a1_0 a1_1 a1_2 a1_3 l1_4 l2 = some (r1, r2)) :
  Calls Tryz.prog 24 #[.agg #[.slice A0_0 l0_0.length c0_0, .slice A0_1 l0_1.length c0_1, .slice A0_2 l0_2.length c0_2, .slice A0_3 l0_3.length c0_3], .agg #[.string a1_0, .string a1_1, .string a1_2, .string a1_3, .slice A1_4 l1_4.length c1_4], .slice A2 l2.length c2] w fun e w' => e = .returned (.tuple #[.string r1, .bool r2]) ∧ Below w.heap.size w w' := by
 have HG := am hG
 clear hG
 have hu58 := Tryz.underlying58
 have hu34 := Tryz.underlying34
 have hu38 := Tryz.underlying38
 have HR0_0 := am hr0_0
 have HC0_0 := am hc0_0
 clear hr0_0 hc0_0
 have HR0_1 := am hr0_1
 have HC0_1 := am hc0_1
 clear hr0_1 hc0_1
 have HR0_2 := am hr0_2
 have HC0_2 := am hc0_2
 clear hr0_2 hc0_2
 have HR0_3 := am hr0_3
 have HC0_3 := am hc0_3
 clear hr0_3 hc0_3
 have HR1_4 := am hr1_4
 have HC1_4 := am hc1_4
 clear hr1_4 hc1_4
 have HR2 := am hr2
 have HC2 := am hc2
 clear hr2 hc2
 have HB := am (Below.refl w.heap.size w)
 have H : (if a1_3.toList = ([] : List UInt8) then ((rewrite_Cascade.f k l0_0 l0_1 a1_2).bind fun bt297 => (some (bt297.1, (bt297.2 == 0)))) else ((morphology_words_paradigm.f k l0_0 l0_1 l0_2 l0_3 a1_3).bind fun bt299 => ((paradigm_Underlying.f k bt299.1 bt299.2.1 bt299.2.2.1 a1_2 l1_4 l2).bind fun bt308 => (if bt308.2 = 0 then ((rewrite_Cascade.f k l0_0 l0_1 bt308.1).bind fun bt310 => (some (bt310.1, (bt310.2 == 0)))) else (some ((⟨#[]⟩ : ByteArray), false)))))) = some (r1, r2) := h
 clear h
 by_cases c4 : a1_3.toList = ([] : List UInt8)
 ·rw [if_pos c4] at H
  have c4b0 : (a1_3.toList == ([] : List UInt8)) = true := beq_iff_eq.mpr c4
  have c4b1 : (a1_3.toList != ([] : List UInt8)) = false := bne_eq_false_iff_eq.mpr c4
  clear c4
  replace H := Option.bind_eq_some_iff.mp H
  obtain ⟨⟨t297, t298⟩, A50, H⟩ := H
  (try dsimp only at H)
  have A5 := am A50
  clear A50
  simp only [Option.some.injEq, Prod.mk.injEq] at H
  obtain ⟨rfl, rfl⟩ := H
  go_enter Tryz.func24, Tryz.ntmps24
  go_wp2_with (first | ((with_reducible refine gate_dst (N := 3) rfl ?_); refine bx 3 #[.slice A0_0 l0_0.length c0_0, .slice A0_1 l0_1.length c0_1, .slice A0_2 l0_2.length c0_2, .slice A0_3 l0_3.length c0_3] 58 ?_; intro gb295 hg w6 hbox hb; have BK295 := am hbox; have GE295 := sz hg; replace HB := bs hb; clear hb hbox hg) | ((with_reducible refine gate_dst (N := 4) rfl ?_); refine bx 4 #[.string a1_0, .string a1_1, .string a1_2, .string a1_3, .slice A1_4 l1_4.length c1_4] 34 ?_; intro gb296 hg w7 hbox hb; have BK296 := am hbox; have GE296 := sz hg; have NB295_296 := nl hg BK295; have NB296_295 := ng hg BK295; replace BK295 := bk BK295 hb; replace HB := bs hb; clear hb hbox hg; have hnb8 := NB296_295.out; have hnc8 := NB295_296.out; obtain ⟨zaa, zab, zac, zad, zae, zaf, zag, zah, zai, zaj⟩ := bc5 BK296; obtain ⟨zak, zal, zam, zan, zao, zap, zaq, zar⟩ := bc4 BK295) | ((with_reducible refine gate_callee (f := 10) rfl ?_); refine gL (some 48) Tryz.func10 #[.slice A0_0 l0_0.length c0_0, .slice A0_1 l0_1.length c0_1, .string a1_2] ?_; (with_reducible refine (rewrite_Cascade.calls k _ _ l0_0 _ _ l0_1 a1_2 t297 t298 _ (cq HR0_0) HC0_0.out (cq HR0_1) HC0_1.out (Glob.below HG.out bq) A5.out).mono ?_); rintro e w11 ⟨rfl, hb⟩; refine ⟨_, rfl, ?_⟩; replace BK295 := bk BK295 hb; replace BK296 := bk BK296 hb; replace HB := bs hb; (try clear hb)))
  go_ret2
  exact ⟨eq', bq⟩
 rw [if_neg c4] at H
 have c4b0 : (a1_3.toList == ([] : List UInt8)) = false := beq_eq_false_iff_ne.mpr c4
 have c4b1 : (a1_3.toList != ([] : List UInt8)) = true := bne_iff_ne.mpr c4
 replace H := Option.bind_eq_some_iff.mp H
 obtain ⟨⟨t299, t300, t303, t306⟩, A120, H⟩ := H
 (try dsimp only at H)
 have A12 := am A120
 clear A120
 replace H := Option.bind_eq_some_iff.mp H
 obtain ⟨⟨t308, t309⟩, A130, H⟩ := H
 (try dsimp only at H)
 have A13 := am A130
 clear A130
 by_cases c14 : t309 = 0
 ·rw [if_pos c14] at H
  have c14b0 : (t309 == 0) = true := beq_iff_eq.mpr c14
  have c14b1 : (t309 != 0) = false := bne_eq_false_iff_eq.mpr c14
  clear c14
  replace H := Option.bind_eq_some_iff.mp H
  obtain ⟨⟨t310, t311⟩, A150, H⟩ := H
  (try dsimp only at H)
  have A15 := am A150
  clear A150
  simp only [Option.some.injEq, Prod.mk.injEq] at H
  obtain ⟨rfl, rfl⟩ := H
  go_enter Tryz.func24, Tryz.ntmps24
  go_wp2_with (first | ((with_reducible refine gate_dst (N := 3) rfl ?_); refine bx 3 #[.slice A0_0 l0_0.length c0_0, .slice A0_1 l0_1.length c0_1, .slice A0_2 l0_2.length c0_2, .slice A0_3 l0_3.length c0_3] 58 ?_; intro gb295 hg w16 hbox hb; have BK295 := am hbox; have GE295 := sz hg; replace HB := bs hb; clear hb hbox hg) | ((with_reducible refine gate_dst (N := 4) rfl ?_); refine bx 4 #[.string a1_0, .string a1_1, .string a1_2, .string a1_3, .slice A1_4 l1_4.length c1_4] 34 ?_; intro gb296 hg w17 hbox hb; have BK296 := am hbox; have GE296 := sz hg; have NB295_296 := nl hg BK295; have NB296_295 := ng hg BK295; replace BK295 := bk BK295 hb; replace HB := bs hb; clear hb hbox hg; have hnb18 := NB296_295.out; have hnc18 := NB295_296.out; obtain ⟨zas, zat, zau, zav, zaw, zax, zay, zaz, zba, zbb⟩ := bc5 BK296; obtain ⟨zbc, zbd, zbe, zbf, zbg, zbh, zbi, zbj⟩ := bc4 BK295) | ((with_reducible refine gate_callee (f := 17) rfl ?_); refine gL (some 24) Tryz.func17 #[.agg #[.slice A0_0 l0_0.length c0_0, .slice A0_1 l0_1.length c0_1, .slice A0_2 l0_2.length c0_2, .slice A0_3 l0_3.length c0_3], .string a1_3] ?_; (with_reducible refine (morphology_words_paradigm.calls k _ _ l0_0 _ _ l0_1 (fun k_ => k_ < w.heap.size) _ _ l0_2 _ _ l0_3 a1_3 t299 t300 t303 t306 _ (cq HR0_0) HC0_0.out (cq HR0_1) HC0_1.out ?side5 ?side6 ?side7 A12.out).mono ?_); (case side5 => exact Kd.V_mk HC0_2.out (Kd.F_below (Kd.C_F k38_heap HR0_2.out) bq)); (case side6 => repeat (first | exact (Kd.C_below HR0_3.out HB.out) | (with_reducible refine Kd.C_alloc ?_ _) | (with_reducible refine Kd.C_drewN ?_ _) | (with_reducible refine Kd.C_drew ?_))); (case side7 => exact HC0_3.out); rintro e w21 ⟨v301, v304, rfl, ho0, ho1, hb⟩; refine ⟨_, rfl, ?_⟩; have HO302 := am (Kd.V_lower (Kd.V_mono (ok' := fun k_ => k_ ≠ gb295 ∧ k_ ≠ gb296) ho0 (fun k_ hk_ => ⟨Or.elim hk_ (fun hs_ => fun e_ => Nat.not_le.2 hs_ (by rw [e_]; exact GE295.out)) (fun hn_ => (Kd.freshB (g := gb295) (o := .cells #[.slice A0_0 l0_0.length c0_0, .slice A0_1 l0_1.length c0_1, .slice A0_2 l0_2.length c0_2, .slice A0_3 l0_3.length c0_3] 58 (0, 0)) (bd BK295) k_ hn_)), Or.elim hk_ (fun hs_ => fun e_ => Nat.not_le.2 hs_ (by rw [e_]; exact GE296.out)) (fun hn_ => (Kd.freshB (g := gb296) (o := .cells #[.string a1_0, .string a1_1, .string a1_2, .string a1_3, .slice A1_4 l1_4.length c1_4] 34 (0, 0)) (bd BK296) k_ hn_))⟩)) (below_size bq)); have HO305 := am (Kd.V_lower (Kd.V_mono (ok' := fun k_ => k_ ≠ gb295 ∧ k_ ≠ gb296) ho1 (fun k_ hk_ => ⟨Or.elim hk_ (fun hs_ => fun e_ => Nat.not_le.2 hs_ (by rw [e_]; exact GE295.out)) (fun hn_ => (Kd.freshB (g := gb295) (o := .cells #[.slice A0_0 l0_0.length c0_0, .slice A0_1 l0_1.length c0_1, .slice A0_2 l0_2.length c0_2, .slice A0_3 l0_3.length c0_3] 58 (0, 0)) (bd BK295) k_ hn_)), Or.elim hk_ (fun hs_ => fun e_ => Nat.not_le.2 hs_ (by rw [e_]; exact GE296.out)) (fun hn_ => (Kd.freshB (g := gb296) (o := .cells #[.string a1_0, .string a1_1, .string a1_2, .string a1_3, .slice A1_4 l1_4.length c1_4] 34 (0, 0)) (bd BK296) k_ hn_))⟩)) (below_size bq)); replace BK295 := bk BK295 hb; replace BK296 := bk BK296 hb; replace HB := bs hb; (try clear hb); (try clear ho0); (try clear ho1)) | ((with_reducible refine gate_dst (N := 9) rfl ?_); refine bx 9 #[.string (⟨#[]⟩ : ByteArray), .slice none 0 0, .slice none 0 0] 38 ?_; intro gb307 hg w22 hbox hb; have BK307 := am hbox; have GE307 := sz hg; have NB295_307 := nl hg BK295; have NB307_295 := ng hg BK295; have NB296_307 := nl hg BK296; have NB307_296 := ng hg BK296; replace HO302 := am (Kd.V_below (Kd.V_elderB (rV HO302) gb307 (Nat.le_of_eq hg.symm)) hb); replace HO305 := am (Kd.V_below (Kd.V_elderB (rV HO305) gb307 (Nat.le_of_eq hg.symm)) hb); replace BK295 := bk BK295 hb; replace BK296 := bk BK296 hb; replace HB := bs hb; clear hb hbox hg; have hnb23 := NB307_295.out; have hnc23 := NB295_307.out; have hnb24 := NB307_296.out; have hnc24 := NB296_307.out; obtain ⟨zbk, zbl, zbm, zbn, zbo, zbp⟩ := bc3 BK307; obtain ⟨Ao26, co26, eo26⟩ := Kd.V_slice HO302.out; subst eo26; obtain ⟨Ao27, co27, eo27⟩ := Kd.V_slice HO305.out; subst eo27; obtain ⟨zbq, zbr, zbs, zbt, zbu, zbv, zbw, zbx, zby, zbz⟩ := bc5 BK296) | ((with_reducible refine gate_callee (f := 9) rfl ?_); refine gL (some 34) Tryz.func9 #[.agg #[.string t299, .slice Ao26 t300.length co26, .slice Ao27 t303.length co27], .string a1_2, .slice A1_4 l1_4.length c1_4, .slice A2 l2.length c2] ?_; (with_reducible refine (paradigm_Underlying.calls k t299 _ _ t300 _ _ t303 a1_2 _ _ l1_4 _ _ l2 t308 t309 _ ?side1 ?side2 ?side3 ?side4 ?side5 ?side6 ?side7 ?side8 A13.out).mono ?_); (case side1 => refine (Kd.V_reads' (e := 55) (base := w.heap.size) (ok := fun k_ => ((k_ ≠ gb295 ∧ k_ ≠ gb296) ∧ k_ ≠ gb307)) (n := t300.length) (c := co26) ?_).2.2; exact (rW ((Kd.V_mono (Kd.V_far (p := ⟨gb307, 2, none⟩) (Kd.V_far (p := ⟨gb307, 1, none⟩) (Kd.V_far (p := ⟨gb307, 0, none⟩) (Kd.V_mono HO302.out (fun k_ hk => (⟨hk, hk.2⟩ : _ ∧ k_ ≠ gb307))) (fun _ hk => hk.2) (.string t299)) (fun _ hk => hk.2) (.slice Ao26 t300.length co26)) (fun _ hk => hk.2) (.slice Ao27 t303.length co27)) (fun _ h_ => h_.1))))); (case side2 => exact (Kd.V_reads' HO302.out).2.1); (case side3 => refine (Kd.V_reads' (e := 80) (base := w.heap.size) (ok := fun k_ => ((k_ ≠ gb295 ∧ k_ ≠ gb296) ∧ k_ ≠ gb307)) (n := t303.length) (c := co27) ?_).2.2; exact (rW ((Kd.V_mono (Kd.V_far (p := ⟨gb307, 2, none⟩) (Kd.V_far (p := ⟨gb307, 1, none⟩) (Kd.V_far (p := ⟨gb307, 0, none⟩) (Kd.V_mono HO305.out (fun k_ hk => (⟨hk, hk.2⟩ : _ ∧ k_ ≠ gb307))) (fun _ hk => hk.2) (.string t299)) (fun _ hk => hk.2) (.slice Ao26 t300.length co26)) (fun _ hk => hk.2) (.slice Ao27 t303.length co27)) (fun _ h_ => h_.1))))); (case side4 => exact (Kd.V_reads' HO305.out).2.1); (case side5 => exact Kd.C_below HR1_4.out bq); (case side6 => exact HC1_4.out); (case side7 => exact Kd.C_below HR2.out bq); (case side8 => exact HC2.out); rintro e w29 ⟨rfl, hb⟩; refine ⟨_, rfl, ?_⟩; replace HO302 := am (Kd.V_below (rW ((Kd.V_mono (Kd.V_far (p := ⟨gb307, 2, none⟩) (Kd.V_far (p := ⟨gb307, 1, none⟩) (Kd.V_far (p := ⟨gb307, 0, none⟩) (Kd.V_mono HO302.out (fun k_ hk => (⟨hk, hk.2⟩ : _ ∧ k_ ≠ gb307))) (fun _ hk => hk.2) (.string t299)) (fun _ hk => hk.2) (.slice Ao26 t300.length co26)) (fun _ hk => hk.2) (.slice Ao27 t303.length co27)) (fun _ h_ => h_.1)))) hb); replace HO305 := am (Kd.V_below (rW ((Kd.V_mono (Kd.V_far (p := ⟨gb307, 2, none⟩) (Kd.V_far (p := ⟨gb307, 1, none⟩) (Kd.V_far (p := ⟨gb307, 0, none⟩) (Kd.V_mono HO305.out (fun k_ hk => (⟨hk, hk.2⟩ : _ ∧ k_ ≠ gb307))) (fun _ hk => hk.2) (.string t299)) (fun _ hk => hk.2) (.slice Ao26 t300.length co26)) (fun _ hk => hk.2) (.slice Ao27 t303.length co27)) (fun _ h_ => h_.1)))) hb); replace BK295 := am (blk_below (g := gb295) (o := .cells #[.slice A0_0 l0_0.length c0_0, .slice A0_1 l0_1.length c0_1, .slice A0_2 l0_2.length c0_2, .slice A0_3 l0_3.length c0_3] 58 (0, 0)) (bf BK295) hb); replace BK296 := am (blk_below (g := gb296) (o := .cells #[.string a1_0, .string a1_1, .string a1_2, .string a1_3, .slice A1_4 l1_4.length c1_4] 34 (0, 0)) (bf BK296) hb); replace BK307 := am (blk_below (g := gb307) (o := .cells #[.string t299, .slice Ao26 t300.length co26, .slice Ao27 t303.length co27] 38 (0, 0)) (bp BK307) hb); replace HB := bs hb; (try clear hb); (try clear hk); obtain ⟨zca, zcb, zcc, zcd, zce, zcf, zcg, zch⟩ := bc4 BK295) | ((with_reducible refine gate_callee (f := 10) rfl ?_); refine gL (some 48) Tryz.func10 #[.slice A0_0 l0_0.length c0_0, .slice A0_1 l0_1.length c0_1, .string t308] ?_; (with_reducible refine (rewrite_Cascade.calls k _ _ l0_0 _ _ l0_1 t308 t310 t311 _ (cq HR0_0) HC0_0.out (cq HR0_1) HC0_1.out (Glob.below HG.out bq) A15.out).mono ?_); rintro e w31 ⟨rfl, hb⟩; refine ⟨_, rfl, ?_⟩; replace HO302 := am (Kd.V_below (rV HO302) hb); replace HO305 := am (Kd.V_below (rV HO305) hb); replace BK295 := bk BK295 hb; replace BK296 := bk BK296 hb; replace BK307 := bk BK307 hb; replace HB := bs hb; (try clear hb)))
  go_ret2
  exact ⟨eq', bq⟩
 rw [if_neg c14] at H
 have c14b0 : (t309 == 0) = false := beq_eq_false_iff_ne.mpr c14
 have c14b1 : (t309 != 0) = true := bne_iff_ne.mpr c14
 simp only [Option.some.injEq, Prod.mk.injEq] at H
 obtain ⟨rfl, rfl⟩ := H
 go_enter Tryz.func24, Tryz.ntmps24
 go_wp2_with (first | ((with_reducible refine gate_dst (N := 3) rfl ?_); refine bx 3 #[.slice A0_0 l0_0.length c0_0, .slice A0_1 l0_1.length c0_1, .slice A0_2 l0_2.length c0_2, .slice A0_3 l0_3.length c0_3] 58 ?_; intro gb295 hg w32 hbox hb; have BK295 := am hbox; have GE295 := sz hg; replace HB := bs hb; clear hb hbox hg) | ((with_reducible refine gate_dst (N := 4) rfl ?_); refine bx 4 #[.string a1_0, .string a1_1, .string a1_2, .string a1_3, .slice A1_4 l1_4.length c1_4] 34 ?_; intro gb296 hg w33 hbox hb; have BK296 := am hbox; have GE296 := sz hg; have NB295_296 := nl hg BK295; have NB296_295 := ng hg BK295; replace BK295 := bk BK295 hb; replace HB := bs hb; clear hb hbox hg; have hnb34 := NB296_295.out; have hnc34 := NB295_296.out; obtain ⟨zci, zcj, zck, zcl, zcm, zcn, zco, zcp, zcq, zcr⟩ := bc5 BK296; obtain ⟨zcs, zct, zcu, zcv, zcw, zcx, zcy, zcz⟩ := bc4 BK295) | ((with_reducible refine gate_callee (f := 17) rfl ?_); refine gL (some 24) Tryz.func17 #[.agg #[.slice A0_0 l0_0.length c0_0, .slice A0_1 l0_1.length c0_1, .slice A0_2 l0_2.length c0_2, .slice A0_3 l0_3.length c0_3], .string a1_3] ?_; (with_reducible refine (morphology_words_paradigm.calls k _ _ l0_0 _ _ l0_1 (fun k_ => k_ < w.heap.size) _ _ l0_2 _ _ l0_3 a1_3 t299 t300 t303 t306 _ (cq HR0_0) HC0_0.out (cq HR0_1) HC0_1.out ?side5 ?side6 ?side7 A12.out).mono ?_); (case side5 => exact Kd.V_mk HC0_2.out (Kd.F_below (Kd.C_F k38_heap HR0_2.out) bq)); (case side6 => repeat (first | exact (Kd.C_below HR0_3.out HB.out) | (with_reducible refine Kd.C_alloc ?_ _) | (with_reducible refine Kd.C_drewN ?_ _) | (with_reducible refine Kd.C_drew ?_))); (case side7 => exact HC0_3.out); rintro e w37 ⟨v301, v304, rfl, ho0, ho1, hb⟩; refine ⟨_, rfl, ?_⟩; have HO302 := am (Kd.V_lower (Kd.V_mono (ok' := fun k_ => k_ ≠ gb295 ∧ k_ ≠ gb296) ho0 (fun k_ hk_ => ⟨Or.elim hk_ (fun hs_ => fun e_ => Nat.not_le.2 hs_ (by rw [e_]; exact GE295.out)) (fun hn_ => (Kd.freshB (g := gb295) (o := .cells #[.slice A0_0 l0_0.length c0_0, .slice A0_1 l0_1.length c0_1, .slice A0_2 l0_2.length c0_2, .slice A0_3 l0_3.length c0_3] 58 (0, 0)) (bd BK295) k_ hn_)), Or.elim hk_ (fun hs_ => fun e_ => Nat.not_le.2 hs_ (by rw [e_]; exact GE296.out)) (fun hn_ => (Kd.freshB (g := gb296) (o := .cells #[.string a1_0, .string a1_1, .string a1_2, .string a1_3, .slice A1_4 l1_4.length c1_4] 34 (0, 0)) (bd BK296) k_ hn_))⟩)) (below_size bq)); have HO305 := am (Kd.V_lower (Kd.V_mono (ok' := fun k_ => k_ ≠ gb295 ∧ k_ ≠ gb296) ho1 (fun k_ hk_ => ⟨Or.elim hk_ (fun hs_ => fun e_ => Nat.not_le.2 hs_ (by rw [e_]; exact GE295.out)) (fun hn_ => (Kd.freshB (g := gb295) (o := .cells #[.slice A0_0 l0_0.length c0_0, .slice A0_1 l0_1.length c0_1, .slice A0_2 l0_2.length c0_2, .slice A0_3 l0_3.length c0_3] 58 (0, 0)) (bd BK295) k_ hn_)), Or.elim hk_ (fun hs_ => fun e_ => Nat.not_le.2 hs_ (by rw [e_]; exact GE296.out)) (fun hn_ => (Kd.freshB (g := gb296) (o := .cells #[.string a1_0, .string a1_1, .string a1_2, .string a1_3, .slice A1_4 l1_4.length c1_4] 34 (0, 0)) (bd BK296) k_ hn_))⟩)) (below_size bq)); replace BK295 := bk BK295 hb; replace BK296 := bk BK296 hb; replace HB := bs hb; (try clear hb); (try clear ho0); (try clear ho1)) | ((with_reducible refine gate_dst (N := 9) rfl ?_); refine bx 9 #[.string (⟨#[]⟩ : ByteArray), .slice none 0 0, .slice none 0 0] 38 ?_; intro gb307 hg w38 hbox hb; have BK307 := am hbox; have GE307 := sz hg; have NB295_307 := nl hg BK295; have NB307_295 := ng hg BK295; have NB296_307 := nl hg BK296; have NB307_296 := ng hg BK296; replace HO302 := am (Kd.V_below (Kd.V_elderB (rV HO302) gb307 (Nat.le_of_eq hg.symm)) hb); replace HO305 := am (Kd.V_below (Kd.V_elderB (rV HO305) gb307 (Nat.le_of_eq hg.symm)) hb); replace BK295 := bk BK295 hb; replace BK296 := bk BK296 hb; replace HB := bs hb; clear hb hbox hg; have hnb39 := NB307_295.out; have hnc39 := NB295_307.out; have hnb40 := NB307_296.out; have hnc40 := NB296_307.out; obtain ⟨zda, zdb, zdc, zdd, zde, zdf⟩ := bc3 BK307; obtain ⟨Ao42, co42, eo42⟩ := Kd.V_slice HO302.out; subst eo42; obtain ⟨Ao43, co43, eo43⟩ := Kd.V_slice HO305.out; subst eo43; obtain ⟨zdg, zdh, zdi, zdj, zdk, zdl, zdm, zdn, zdo, zdp⟩ := bc5 BK296) | ((with_reducible refine gate_callee (f := 9) rfl ?_); refine gL (some 34) Tryz.func9 #[.agg #[.string t299, .slice Ao42 t300.length co42, .slice Ao43 t303.length co43], .string a1_2, .slice A1_4 l1_4.length c1_4, .slice A2 l2.length c2] ?_; (with_reducible refine (paradigm_Underlying.calls k t299 _ _ t300 _ _ t303 a1_2 _ _ l1_4 _ _ l2 t308 t309 _ ?side1 ?side2 ?side3 ?side4 ?side5 ?side6 ?side7 ?side8 A13.out).mono ?_); (case side1 => refine (Kd.V_reads' (e := 55) (base := w.heap.size) (ok := fun k_ => ((k_ ≠ gb295 ∧ k_ ≠ gb296) ∧ k_ ≠ gb307)) (n := t300.length) (c := co42) ?_).2.2; exact (rW ((Kd.V_mono (Kd.V_far (p := ⟨gb307, 2, none⟩) (Kd.V_far (p := ⟨gb307, 1, none⟩) (Kd.V_far (p := ⟨gb307, 0, none⟩) (Kd.V_mono HO302.out (fun k_ hk => (⟨hk, hk.2⟩ : _ ∧ k_ ≠ gb307))) (fun _ hk => hk.2) (.string t299)) (fun _ hk => hk.2) (.slice Ao42 t300.length co42)) (fun _ hk => hk.2) (.slice Ao43 t303.length co43)) (fun _ h_ => h_.1))))); (case side2 => exact (Kd.V_reads' HO302.out).2.1); (case side3 => refine (Kd.V_reads' (e := 80) (base := w.heap.size) (ok := fun k_ => ((k_ ≠ gb295 ∧ k_ ≠ gb296) ∧ k_ ≠ gb307)) (n := t303.length) (c := co43) ?_).2.2; exact (rW ((Kd.V_mono (Kd.V_far (p := ⟨gb307, 2, none⟩) (Kd.V_far (p := ⟨gb307, 1, none⟩) (Kd.V_far (p := ⟨gb307, 0, none⟩) (Kd.V_mono HO305.out (fun k_ hk => (⟨hk, hk.2⟩ : _ ∧ k_ ≠ gb307))) (fun _ hk => hk.2) (.string t299)) (fun _ hk => hk.2) (.slice Ao42 t300.length co42)) (fun _ hk => hk.2) (.slice Ao43 t303.length co43)) (fun _ h_ => h_.1))))); (case side4 => exact (Kd.V_reads' HO305.out).2.1); (case side5 => exact Kd.C_below HR1_4.out bq); (case side6 => exact HC1_4.out); (case side7 => exact Kd.C_below HR2.out bq); (case side8 => exact HC2.out); rintro e w45 ⟨rfl, hb⟩; refine ⟨_, rfl, ?_⟩; replace HO302 := am (Kd.V_below (rW ((Kd.V_mono (Kd.V_far (p := ⟨gb307, 2, none⟩) (Kd.V_far (p := ⟨gb307, 1, none⟩) (Kd.V_far (p := ⟨gb307, 0, none⟩) (Kd.V_mono HO302.out (fun k_ hk => (⟨hk, hk.2⟩ : _ ∧ k_ ≠ gb307))) (fun _ hk => hk.2) (.string t299)) (fun _ hk => hk.2) (.slice Ao42 t300.length co42)) (fun _ hk => hk.2) (.slice Ao43 t303.length co43)) (fun _ h_ => h_.1)))) hb); replace HO305 := am (Kd.V_below (rW ((Kd.V_mono (Kd.V_far (p := ⟨gb307, 2, none⟩) (Kd.V_far (p := ⟨gb307, 1, none⟩) (Kd.V_far (p := ⟨gb307, 0, none⟩) (Kd.V_mono HO305.out (fun k_ hk => (⟨hk, hk.2⟩ : _ ∧ k_ ≠ gb307))) (fun _ hk => hk.2) (.string t299)) (fun _ hk => hk.2) (.slice Ao42 t300.length co42)) (fun _ hk => hk.2) (.slice Ao43 t303.length co43)) (fun _ h_ => h_.1)))) hb); replace BK295 := am (blk_below (g := gb295) (o := .cells #[.slice A0_0 l0_0.length c0_0, .slice A0_1 l0_1.length c0_1, .slice A0_2 l0_2.length c0_2, .slice A0_3 l0_3.length c0_3] 58 (0, 0)) (bf BK295) hb); replace BK296 := am (blk_below (g := gb296) (o := .cells #[.string a1_0, .string a1_1, .string a1_2, .string a1_3, .slice A1_4 l1_4.length c1_4] 34 (0, 0)) (bf BK296) hb); replace BK307 := am (blk_below (g := gb307) (o := .cells #[.string t299, .slice Ao42 t300.length co42, .slice Ao43 t303.length co43] 38 (0, 0)) (bp BK307) hb); replace HB := bs hb; (try clear hb); (try clear hk)))
 go_ret2
 exact ⟨eq', bq⟩
theorem alphabet_indices.calls (A0 : Option Addr) (c0 : Nat) (l : List S48) (w : World) (hr0 : Kd.C k48 w A0 l.length l) (hc0 : l.length ≤ c0) (hg : good l = true) (h8 : (l.length : Int) ≤ 1000) :
  Calls Tryz.prog 59 #[.slice A0 l.length c0] w fun e w' => ∃ b n, e = .returned (.map (some b)) ∧ w.heap.size ≤ b ∧ Tb w' b n (distinct l l.length) (firstIn l l.length) ∧ Below w.heap.size w w' := by
 have HR := am hr0
 have HG := am hg
 have HL := am h8
 have hmm : ∀ W : World, (Instr.makeMap 124 (some (.int .i64 (l.length : Int)))).run Tryz.prog W = .ok (.map (some W.heap.size)) (W.alloc (.map #[] 0)) := fun W => by
  simp [Instr.makeMap, run_underlying Tryz.underlying124, asInt, asIntOf, Result.andThen]
 have q0 : (0 ≤ (l.length : Int)) = True := eq_true (by omega)
 clear hr0 hg h8
 go_enter Tryz.func59, Tryz.ntmps59
 go_wp2
 have hT := am ((tb_made w).congr (g := firstIn l 0) (m' := distinct l 0) (fun x => rfl) rfl)
 go_loopg [13] (l.length + 1) (fun kq v13 w' => ∃ (m n : Nat), v13 = .int .i64 (m : Int) ∧ Aside0 (n ≤ m) ∧ Aside0 (m ≤ l.length) ∧ Aside0 (l.length - m < kq) ∧ Aside0 (Tb w' w.heap.size n (distinct l m) (firstIn l m)) ∧ Aside0 (Below w.heap.size w w'))
 case atStart => exact ⟨0, 0, rfl, ⟨Nat.le_refl _⟩, ⟨Nat.zero_le _⟩, ⟨by omega⟩, hT, ⟨below_alloc (Below.refl _ _) _⟩⟩
 case round =>
  clear hT
  obtain ⟨m, n, rfl, HN, HM, HK, HT, HB⟩ := hrel
  obtain ⟨k1, rfl⟩ : ∃ k1, gk = k1 + 1 := ⟨gk - 1, by have := HK.out; omega⟩
  by_cases c1 : (m : Int) < (l.length : Int)
  ·have HRr := am (Kd.C_below HR.out HB.out)
   obtain ⟨ad2, ead2, hx0, hx1⟩ := at_T48 HRr.out (m : Int) (by omega) c1
   subst ead2
   rw [Int.toNat_natCast] at hx0 hx1
   have p1 : (0 ≤ (m : Int)) = True := eq_true (by omega)
   have q2 : ((m : Int) < (l.length : Int)) = True := eq_true c1
   have q2b : decide ((m : Int) < (l.length : Int)) = true := decide_eq_true c1
   have hw := good_at HG.out (i := (m : Int)) (by omega) c1
   have hlk : ∀ o : Obj, (Instr.lookup 124 (.map (some w.heap.size)) (.int .i32 (rd_T48 l m).f0) true).run Tryz.prog (wr.alloc o) = .ok (.tuple #[.int .i64 ((firstIn l m (rd_T48 l m).f0).getD 0), .bool (firstIn l m (rd_T48 l m).f0).isSome]) (wr.alloc o) := fun o => (HT.out.step (below_alloc (Below.refl _ _) o)).look hw
   have HW := am hw
   have HML := am (show m < l.length by omega)
   clear hw c1
   have hwm : wrap64 ((m : Int) + 1) = ((m + 1 : Nat) : Int) := by have := HL.out; have := HML.out; unfold wrap64; omega
   by_cases c2 : (firstIn l m (rd_T48 l m).f0).isSome = true
   ·have C2 := am c2
    go_wp2
    go_roundg k1
    case measure => have := HK.out; omega
    case rel => exact ⟨m + 1, n, by rw [hwm], ⟨by have := HN.out; omega⟩, ⟨HML.out⟩, ⟨by have := HK.out; have := HML.out; omega⟩, ⟨(HT.out.step (below_alloc (Below.refl _ _) _)).congr (firstIn_stay HML.out C2.out) (by show _ = _ + _; rw [if_pos C2.out]; rfl)⟩, ⟨below_alloc HB.out _⟩⟩
   have c2b := Bool.eq_false_iff.mpr c2
   have hnone : firstIn l m (rd_T48 l m).f0 = none := Option.isNone_iff_eq_none.mp (by simpa using c2)
   have HF := am hnone
   rw [hnone] at hlk
   obtain ⟨D, h1, h2, h3, h4, h5⟩ := HT.out
   have hlt : w.heap.size < wr.heap.size := HT.out.lt
   have HND := am (show n < maxLen by have := HN.out; have := HM.out; have := HL.out; unfold maxLen; omega)
   clear c2 hnone HT c2b
   go_wp2_with (first | (at_mapUpdate; refine wpList_mapUpdate_own _ rfl _ _ _ 124 rfl 21 3 keyR Tryz.underlying124 _ w.heap.size n D rfl (h1.alloc _) HND.out _ _ (.int .i32 (rd_T48 l m).f0) rfl rfl (keyR_at HW.out) (.lit (.int .i64 (m : Int))) [] (plainElem_int Tryz.underlying3 (wf_small (by omega) (by have := HM.out; have := HL.out; omega))) ?_; intro w1 hown1 hgrow1; have n1_ := am ((Tb.put h2 h3 h4 h5 HF.out hown1).congr (firstIn_next HML.out HF.out) (m' := distinct l (m + 1)) (by show _ = _ + _; rw [HF.out]; rfl)); have n2_ := am (pw_below_grown (below_alloc HB.out _) (some w.heap.size) (below_size (below_alloc HB.out _)) hgrow1 (fun k hk => by injection hk with hk; omega)); clear hown1 hgrow1 HB hlk h1 h2 h3 h4 h5; have HT := n1_; have HB := n2_; clear n1_ n2_))
   go_roundg k1
   case measure => omega
   case rel => exact ⟨m + 1, n + 1, by rw [hwm], ⟨by have := HN.out; omega⟩, ⟨HML.out⟩, ⟨by have := HK.out; have := HML.out; omega⟩, HT, HB⟩
  have q2b : decide ((m : Int) < (l.length : Int)) = false := decide_eq_false c1
  have : m = l.length := by have := HM.out; omega
  subst this
  clear c1
  go_wp2
  go_ret
  exact ⟨_, _, rfl, Nat.le_refl _, HT.out, HB.out⟩
theorem alphabet_IsWord.calls (A0 : Option Addr) (c0 : Nat) (l : List S48) (s : ByteArray) (r : Bool) (w : World) (hr0 : Kd.C k48 w A0 l.length l) (hc0 : l.length ≤ c0) (hG : Glob w) (h : alphabet_IsWord.f l s = some r) :
  Calls Tryz.prog 56 #[.slice A0 l.length c0, .string s] w fun e w' => e = .returned (.bool r) ∧ Below w.heap.size w w' := by
 unfold alphabet_IsWord.f at h
 by_cases h1 : okS l s = true
 ·rw [if_pos h1] at h
  have HR := am hr0
  have HG := am hG
  have HO := am (okS_at h1)
  have hvs : utf8_ValidString.f s = some (Lib.validD s.data.toList) := if_pos (by have := HO.out.2; omega)
  have HV := am hvs
  have h := Option.some.inj h
  clear hr0 hG h1 hvs
  cases hv : Lib.validD s.data.toList with
  | false =>
   rw [hv] at h HV
   obtain rfl : false = r := by simpa using h
   clear h hv
   go_enter Tryz.func56, Tryz.ntmps56
   go_wp2_with (first | (go_at_call 76; refine (utf8_ValidString.calls s false _ HG.out HV.out).mono ?_; rintro e w1 ⟨rfl, hb⟩; have HB1 := am hb; clear hb))
   go_ret
   exact ⟨rfl, HB1.out⟩
  | true =>
   rw [hv] at h HV
   rw [Bool.true_and] at h
   have HA0 := am h
   clear h hv
   go_enter Tryz.func56, Tryz.ntmps56
   go_wp2_with (first | (go_at_call 76; refine (utf8_ValidString.calls s true _ HG.out HV.out).mono ?_; rintro e w1 ⟨rfl, hb⟩; have HB1 := am hb; clear hb) | (go_at_call 59; refine (alphabet_indices.calls A0 c0 l _ (Kd.C_below HR.out HB1.out) hc0 HO.out.1.1 HO.out.1.2).mono ?_; rintro e w2 ⟨b, n, rfl, hb, ht, hbel⟩; have HT := am ht; have HB2 := am (below_step HB1.out hbel); clear hb ht hbel))
   go_loopg [6] (s.size + 1) (fun kq v6 w' => ∃ (pos m : Nat) (xs : List Int), v6 = .int .i64 (m : Int) ∧ Aside0 (Left s kq pos xs) ∧ Aside0 ((xs.all (isLetter l) && decide (((m + xs.length : Nat) : Int) ≤ 40)) = r) ∧ Aside0 (m ≤ pos) ∧ Aside0 (w'.heap[w2.heap.size]? = some (.stringIter s pos)) ∧ Aside0 (Tb w' b n (distinct l l.length) (firstIn l l.length)) ∧ Aside0 (Below w.heap.size w w'))
   case atStart => exact ⟨0, 0, rns s, (by first | rfl | (simp; done)), ⟨left_start s⟩, ⟨by have := HA0.out; simpa using this⟩, ⟨Nat.le_refl _⟩, ⟨blk_new w2 (.stringIter s 0)⟩, ⟨HT.out.step (below_alloc (Below.refl _ _) (.stringIter s 0))⟩, ⟨below_alloc HB2.out (.stringIter s 0)⟩⟩
   case round =>
    obtain ⟨pos, m, xs, rfl, HL, HA, HM, HI, HT1, HB⟩ := hrel
    have HBL := am (show b ≠ w2.heap.size from fun e => by have := HT.out.lt; omega)
    by_cases c1 : pos < s.size
    ·obtain ⟨k1, ys, rfl, rfl, HL1⟩ := left_next HL.out c1
     have hnx : ∀ ty, (Instr.next (.pointer (some ⟨w2.heap.size, 0, none⟩)) true ty).run Tryz.prog wr = _ := fun ty => Lib.run_next_any_at wr w2.heap.size s pos ty HI.out c1
     have HI2 := am (Lib.iterAt_heap wr w2.heap.size s pos (pos + (Utf8.decode s pos).2) HI.out)
     have HB2' := am (Lib.below_iterAt HB.out HB2.out.size s (pos + (Utf8.decode s pos).2))
     have HT2 := am (HT1.out.kept (grown_iterAt wr w2.heap.size s (pos + (Utf8.decode s pos).2)) (fun e => HBL.out (by injection e)))
     have hlk := HT2.out.look (wf_rune s pos)
     have HN := am (show m + 1 ≤ pos + (Utf8.decode s pos).2 by have := HM.out; have := Lib.decode_width_pos s pos c1; omega)
     have hwm : wrap64 ((m : Int) + 1) = ((m + 1 : Nat) : Int) := by have := HO.out; have := HM.out; unfold wrap64; omega
     have HLL := am HL1
     clear HL1 HI HB HT1 HL
     generalize hd : Utf8.decode s pos = d at *
     obtain ⟨d1, d2⟩ := d
     simp only at HLL HA hnx HI2 HB2' HT2 HN hlk
     clear hd c1
     cases hf : firstIn l l.length (d1 : Int) with
     | none =>
      rw [hf] at hlk
      obtain rfl : false = r := by
       have := HA.out
       simpa [isLetter, hf] using this
      clear hf
      go_wp2
      go_ret
      exact ⟨rfl, HB2'.out⟩
     | some i =>
      rw [hf] at hlk
      have HA' : Aside0 ((ys.all (isLetter l) && decide (((m + 1 + ys.length : Nat) : Int) ≤ 40)) = r) := ⟨by
       have := HA.out
       simp only [List.all_cons, isLetter, hf, Option.isSome_some, Bool.true_and, List.length_cons] at this
       rw [← this]
       congr 2
       rw [show m + 1 + ys.length = m + (ys.length + 1) by omega]⟩
      clear hf HA
      go_wp2
      go_roundg k1
      case measure => omega
      case rel => exact ⟨_, m + 1, ys, by rw [hwm], HLL, HA', HN, HI2, HT2, HB2'⟩
    obtain rfl := left_end HL.out c1
    have hnx : ∀ ty, (Instr.next (.pointer (some ⟨w2.heap.size, 0, none⟩)) true ty).run Tryz.prog wr = _ := fun ty => Lib.run_next_end_at wr w2.heap.size s pos ty HI.out c1
    have hr : decide ((m : Int) ≤ 40) = r := by
     have := HA.out
     simpa using this
    clear c1
    go_wp2
    go_ret
    exact ⟨rfl, HB.out⟩
 rw [if_neg h1] at h
 exact absurd h (by simp)
end Go.Proofs.YtcoialpohgfikaaGreatDoor.C
