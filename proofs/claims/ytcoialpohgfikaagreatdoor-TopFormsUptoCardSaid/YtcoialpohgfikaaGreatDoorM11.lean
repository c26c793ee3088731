/- A part of the proof of TopForms, made short by a program. -/
import Derived.Test.YtcoialpohgfikaaGreatDoorM2
import Derived.Test.YtcoialpohgfikaaGreatDoorM3
import Derived.Test.YtcoialpohgfikaaGreatDoorM5
import Derived.Test.YtcoialpohgfikaaGreatDoorM9
import Derived.Test.YtcoialpohgfikaaGreatDoorM10
import Derived.Test.YtcoialpohgfikaaGreatDoorM4
import Derived.Test.YtcoialpohgfikaaGreatDoorM6
namespace Go.Proofs.YtcoialpohgfikaaGreatDoor.C
open Go.RowKit Go.Proofs.YtcoialpohgfikaaGreatDoorW.PrintWords Go.Proofs.YtcoialpohgfikaaGreatDoorW.PrintLast Go.Proofs.YtcoialpohgfikaaGreatDoorW.PrintMore
attribute [local go_sem] max2_int min2_int max_two min_two max_three min_three max_four min_four
set_option linter.unusedVariables false
set_option maxHeartbeats 8000000
set_option maxRecDepth 100000
set_option linter.unusedSimpArgs false
theorem paradigm_Valid.calls (k : Nat) (A0 : Option Addr) (c0 : Nat) (l0 : List (S48)) (a1_0 : ByteArray) (A1_1 : Option Addr) (c1_1 : Nat) (l1_1 : List (S55)) (A1_2 : Option Addr) (c1_2 : Nat) (l1_2 : List (List (S79))) (r : Bool) (w : World) (hr0 : Kd.C k48 w A0 l0.length l0) (hc0 : l0.length ≤ c0) (hr1_1 : Kd.C k55 w A1_1 l1_1.length l1_1) (hc1_1 : l1_1.length ≤ c1_1) (hr1_2 : Kd.C (Kd.slice 79 k79) w A1_2 l1_2.length l1_2) (hc1_2 : l1_2.length ≤ c1_2) (hG : Glob w) (h : paradigm_Valid.f k l0 a1_0 l1_1 l1_2 = some r) :
  Calls Tryz.prog 33 #[.slice A0 l0.length c0, .agg #[.string a1_0, .slice A1_1 l1_1.length c1_1, .slice A1_2 l1_2.length c1_2]] w fun e w' => e = .returned (.bool r) ∧ Below w.heap.size w w' := by
 have HG := am hG
 clear hG
 have hu38 := Tryz.underlying38
 have hu65 := Tryz.underlying65
 have hu79 := Tryz.underlying79
 have HR0 := am hr0
 have HC0 := am hc0
 clear hr0 hc0
 have HR1_1 := am hr1_1
 have HC1_1 := am hc1_1
 clear hr1_1 hc1_1
 have HR1_2 := am hr1_2
 have HC1_2 := am hc1_2
 clear hr1_2 hc1_2
 have HB := am (Below.refl w.heap.size w)
 have H : ((alphabet_Valid.f k l0).bind fun t329 => (if t329 = true then ((feature_Valid.f k (([(⟨a1_0, (⟨#[120]⟩ : ByteArray)⟩ : S65)] : List (S65)))).bind fun t333 => (if t333 = true then ((paradigm_Count.f k a1_0 l1_1 l1_2).bind fun t334 => (if t334 = 0 then (paradigm_Valid.j0 k l0 true a1_0 l1_1 l1_2) else (paradigm_Valid.j0 k l0 (decide ((l1_2.length : Int) > 8)) a1_0 l1_1 l1_2))) else (paradigm_Valid.j0 k l0 true a1_0 l1_1 l1_2))) else (paradigm_Valid.j0 k l0 true a1_0 l1_1 l1_2))) = some r := h
 clear h
 have HC3 := am H
 clear H
 go_enter Tryz.func33, Tryz.ntmps33
 go_upto_region 1 with (first | ((with_reducible refine gate_dst (N := 3) rfl ?_); (try (refine gate_guard (by rfl) ?_; dsimp only)); refine bx 3 #[.string a1_0, .slice A1_1 l1_1.length c1_1, .slice A1_2 l1_2.length c1_2] 38 ?_; intro gb328 hg w4 hbox hb; have BK328 := am hbox; have GE328 := sz hg; replace HB := bs hb; clear hb hbox hg))
 (try simp only [Act.put, List.setIfInBounds_toArray, List.set_cons_zero, List.set_cons_succ])
 go_cut [30] (fun v30 wc => ∃ (kq : Nat) (x30_2 : Bool), v30 = .bool x30_2 ∧ Aside0 (paradigm_Valid.j0 kq l0 x30_2 a1_0 l1_1 l1_2 = some r) ∧ Aside0 (kq ≤ k) ∧ Aside0 (wc.heap[gb328]? = some (.cells #[.string a1_0, (.slice A1_1 l1_1.length c1_1), (.slice A1_2 l1_2.length c1_2)] 38 (0, 0))) ∧ Aside0 (Below w.heap.size w wc))
 case first =>
  have H := HC3.out
  clear HC3
  replace H := Option.bind_eq_some_iff.mp H
  obtain ⟨t329, A50, H⟩ := H
  (try dsimp only at H)
  have A5 := am A50
  clear A50
  by_cases c6 : t329 = true
  ·subst c6
   rw [if_pos rfl] at H
   obtain ⟨y330, hy330⟩ : ∃ y_ : List (S65), y_ = (([(⟨a1_0, (⟨#[120]⟩ : ByteArray)⟩ : S65)] : List (S65))) := ⟨_, rfl⟩
   replace H : ((feature_Valid.f k y330).bind fun t333 => (if t333 = true then ((paradigm_Count.f k a1_0 l1_1 l1_2).bind fun t334 => (if t334 = 0 then (paradigm_Valid.j0 k l0 true a1_0 l1_1 l1_2) else (paradigm_Valid.j0 k l0 (decide ((l1_2.length : Int) > 8)) a1_0 l1_1 l1_2))) else (paradigm_Valid.j0 k l0 true a1_0 l1_1 l1_2))) = some r := by first | (rw [hy330]; with_reducible exact H) | (have H2_ := (Option.bind_some _ _).symm.trans H; rw [hy330]; with_reducible exact H2_) | (have H2_ := (Option.bind_some _ _).symm.trans H; with_reducible exact H2_) | with_reducible exact H | (rw [hy330]; exact H) | exact H
   have Ny330 := am hy330
   clear hy330
   replace H := Option.bind_eq_some_iff.mp H
   obtain ⟨t333, A70, H⟩ := H
   (try dsimp only at H)
   have A7 := am A70
   clear A70
   by_cases c8 : t333 = true
   ·subst c8
    rw [if_pos rfl] at H
    replace H := Option.bind_eq_some_iff.mp H
    obtain ⟨t334, A90, H⟩ := H
    (try dsimp only at H)
    have A9 := am A90
    clear A90
    by_cases c10 : t334 = 0
    ·rw [if_pos c10] at H
     have c10b0 : (t334 == 0) = true := beq_iff_eq.mpr c10
     have c10b1 : (t334 != 0) = false := bne_eq_false_iff_eq.mpr c10
     clear c10
     (first | rw [c10b0] | (simp only [i64_w, i32_w]; rw [c10b0]) | skip)
     have H' := am H
     clear H
     go_wp2_with (first | ((with_reducible refine gate_callee (f := 31) rfl ?_); refine gL (some 10) Tryz.func31 #[.slice A0 l0.length c0] ?_; (with_reducible refine (alphabet_Valid.calls k _ _ l0 true _ (cq HR0) HC0.out A5.out).mono ?_); rintro e w11 ⟨rfl, hb⟩; refine ⟨_, rfl, ?_⟩; replace BK328 := bk BK328 hb; replace HB := bs hb; (try clear hb); obtain ⟨zaa, zab, zac, zad, zae, zaf⟩ := bc3 BK328) | ((with_reducible refine gate_dst (N := 16) rfl ?_); (try (refine gate_guard (by rfl) ?_; dsimp only)); refine Kd.R_lit k65 _ 65 ?hg (N := 16) ?hd (xs := ([(⟨a1_0, (⟨#[120]⟩ : ByteArray)⟩ : S65)] : List (S65))) (inner := [.string a1_0, .string (⟨#[120]⟩ : ByteArray)]) (ok := fun _ => True) (okp := fun _ => True) ?hr ?hp (fun _ hk => hk) trivial (Below.refl _ _) (Nat.le_refl _) (by simp) ?_; (case hd => rfl); (case hg => rfl); (case hr => first | (go_simp; done) | (go_simp; rfl)); (case hp => exact (Reps.c2 (show Kd.M k65 _ _ _ (⟨a1_0, (⟨#[120]⟩ : ByteArray)⟩ : S65) [.string a1_0, .string (⟨#[120]⟩ : ByteArray)] from (k65_mkM _ _ _ (⟨a1_0, (⟨#[120]⟩ : ByteArray)⟩ : S65) )) (Reps.none _ _))); intro v331 w13 ho14 hb hg_ hnew_; clear hg_ hnew_; (first | rw [← Ny330.out] at ho14 | (simp only [Int.reduceToNat] at ho14; rw [← Ny330.out] at ho14)); have HO332 := am (Kd.R_lower ho14 (below_size bq)); replace BK328 := bk BK328 hb; replace HB := bs hb; clear hb ho14; obtain ⟨Ao15, co15, eo15⟩ := Kd.R_slice HO332.out; subst eo15) | (go_at_call 47; (with_reducible refine (feature_Valid.calls k _ _ y330 true _ ?side1 ?side2 A7.out).mono ?_); (case side1 => repeat (first | exact (Kd.R_reads' HO332.out).2.2 | (with_reducible refine Kd.C_alloc ?_ _) | (with_reducible refine Kd.C_drewN ?_ _) | (with_reducible refine Kd.C_drew ?_))); (case side2 => exact (Kd.R_reads' HO332.out).2.1); rintro e w16 ⟨rfl, hb⟩; replace HO332 := am (Kd.R_below (rR HO332) hb); replace BK328 := bk BK328 hb; replace HB := bs hb; (try clear hb); obtain ⟨zag, zah, zai, zaj, zak, zal⟩ := bc3 BK328) | (go_at_call 20; (with_reducible refine (paradigm_Count.calls k a1_0 _ _ l1_1 _ _ l1_2 t334 _ (cq HR1_1) HC1_1.out (cq HR1_2) HC1_2.out A9.out).mono ?_); rintro e w18 ⟨rfl, hb⟩; replace HO332 := am (Kd.R_below (rR HO332) hb); replace BK328 := bk BK328 hb; replace HB := bs hb; (try clear hb)))
     go_meet
     case rel => exact ⟨_, (true), rq, H', ⟨by first | omega | exact Nat.le_refl _⟩, ⟨bd BK328⟩, ⟨bq⟩⟩
    rw [if_neg c10] at H
    have c10b0 : (t334 == 0) = false := beq_eq_false_iff_ne.mpr c10
    have c10b1 : (t334 != 0) = true := bne_iff_ne.mpr c10
    (first | rw [c10b0] | (simp only [i64_w, i32_w]; rw [c10b0]) | skip)
    have H' := am H
    clear H
    go_wp2_with (first | ((with_reducible refine gate_callee (f := 31) rfl ?_); refine gL (some 10) Tryz.func31 #[.slice A0 l0.length c0] ?_; (with_reducible refine (alphabet_Valid.calls k _ _ l0 true _ (cq HR0) HC0.out A5.out).mono ?_); rintro e w19 ⟨rfl, hb⟩; refine ⟨_, rfl, ?_⟩; replace BK328 := bk BK328 hb; replace HB := bs hb; (try clear hb); obtain ⟨zam, zan, zao, zap, zaq, zar⟩ := bc3 BK328) | ((with_reducible refine gate_dst (N := 16) rfl ?_); (try (refine gate_guard (by rfl) ?_; dsimp only)); refine Kd.R_lit k65 _ 65 ?hg (N := 16) ?hd (xs := ([(⟨a1_0, (⟨#[120]⟩ : ByteArray)⟩ : S65)] : List (S65))) (inner := [.string a1_0, .string (⟨#[120]⟩ : ByteArray)]) (ok := fun _ => True) (okp := fun _ => True) ?hr ?hp (fun _ hk => hk) trivial (Below.refl _ _) (Nat.le_refl _) (by simp) ?_; (case hd => rfl); (case hg => rfl); (case hr => first | (go_simp; done) | (go_simp; rfl)); (case hp => exact (Reps.c2 (show Kd.M k65 _ _ _ (⟨a1_0, (⟨#[120]⟩ : ByteArray)⟩ : S65) [.string a1_0, .string (⟨#[120]⟩ : ByteArray)] from (k65_mkM _ _ _ (⟨a1_0, (⟨#[120]⟩ : ByteArray)⟩ : S65) )) (Reps.none _ _))); intro v331 w21 ho22 hb hg_ hnew_; clear hg_ hnew_; (first | rw [← Ny330.out] at ho22 | (simp only [Int.reduceToNat] at ho22; rw [← Ny330.out] at ho22)); have HO332 := am (Kd.R_lower ho22 (below_size bq)); replace BK328 := bk BK328 hb; replace HB := bs hb; clear hb ho22; obtain ⟨Ao23, co23, eo23⟩ := Kd.R_slice HO332.out; subst eo23) | (go_at_call 47; (with_reducible refine (feature_Valid.calls k _ _ y330 true _ ?side1 ?side2 A7.out).mono ?_); (case side1 => repeat (first | exact (Kd.R_reads' HO332.out).2.2 | (with_reducible refine Kd.C_alloc ?_ _) | (with_reducible refine Kd.C_drewN ?_ _) | (with_reducible refine Kd.C_drew ?_))); (case side2 => exact (Kd.R_reads' HO332.out).2.1); rintro e w24 ⟨rfl, hb⟩; replace HO332 := am (Kd.R_below (rR HO332) hb); replace BK328 := bk BK328 hb; replace HB := bs hb; (try clear hb); obtain ⟨zas, zat, zau, zav, zaw, zax⟩ := bc3 BK328) | (go_at_call 20; (with_reducible refine (paradigm_Count.calls k a1_0 _ _ l1_1 _ _ l1_2 t334 _ (cq HR1_1) HC1_1.out (cq HR1_2) HC1_2.out A9.out).mono ?_); rintro e w26 ⟨rfl, hb⟩; replace HO332 := am (Kd.R_below (rR HO332) hb); replace BK328 := bk BK328 hb; replace HB := bs hb; (try clear hb); obtain ⟨zay, zaz, zba, zbb, zbc, zbd⟩ := bc3 BK328))
    go_meet
    case rel => exact ⟨_, (decide ((l1_2.length : Int) > 8)), rq, H', ⟨by first | omega | exact Nat.le_refl _⟩, ⟨bd BK328⟩, ⟨bq⟩⟩
   replace c8 := Bool.eq_false_iff.mpr c8
   subst c8
   rw [if_neg nf] at H
   have H' := am H
   clear H
   go_wp2_with (first | ((with_reducible refine gate_callee (f := 31) rfl ?_); refine gL (some 10) Tryz.func31 #[.slice A0 l0.length c0] ?_; (with_reducible refine (alphabet_Valid.calls k _ _ l0 true _ (cq HR0) HC0.out A5.out).mono ?_); rintro e w28 ⟨rfl, hb⟩; refine ⟨_, rfl, ?_⟩; replace BK328 := bk BK328 hb; replace HB := bs hb; (try clear hb); obtain ⟨zbe, zbf, zbg, zbh, zbi, zbj⟩ := bc3 BK328) | ((with_reducible refine gate_dst (N := 16) rfl ?_); (try (refine gate_guard (by rfl) ?_; dsimp only)); refine Kd.R_lit k65 _ 65 ?hg (N := 16) ?hd (xs := ([(⟨a1_0, (⟨#[120]⟩ : ByteArray)⟩ : S65)] : List (S65))) (inner := [.string a1_0, .string (⟨#[120]⟩ : ByteArray)]) (ok := fun _ => True) (okp := fun _ => True) ?hr ?hp (fun _ hk => hk) trivial (Below.refl _ _) (Nat.le_refl _) (by simp) ?_; (case hd => rfl); (case hg => rfl); (case hr => first | (go_simp; done) | (go_simp; rfl)); (case hp => exact (Reps.c2 (show Kd.M k65 _ _ _ (⟨a1_0, (⟨#[120]⟩ : ByteArray)⟩ : S65) [.string a1_0, .string (⟨#[120]⟩ : ByteArray)] from (k65_mkM _ _ _ (⟨a1_0, (⟨#[120]⟩ : ByteArray)⟩ : S65) )) (Reps.none _ _))); intro v331 w30 ho31 hb hg_ hnew_; clear hg_ hnew_; (first | rw [← Ny330.out] at ho31 | (simp only [Int.reduceToNat] at ho31; rw [← Ny330.out] at ho31)); have HO332 := am (Kd.R_lower ho31 (below_size bq)); replace BK328 := bk BK328 hb; replace HB := bs hb; clear hb ho31; obtain ⟨Ao32, co32, eo32⟩ := Kd.R_slice HO332.out; subst eo32) | (go_at_call 47; (with_reducible refine (feature_Valid.calls k _ _ y330 false _ ?side1 ?side2 A7.out).mono ?_); (case side1 => repeat (first | exact (Kd.R_reads' HO332.out).2.2 | (with_reducible refine Kd.C_alloc ?_ _) | (with_reducible refine Kd.C_drewN ?_ _) | (with_reducible refine Kd.C_drew ?_))); (case side2 => exact (Kd.R_reads' HO332.out).2.1); rintro e w33 ⟨rfl, hb⟩; replace HO332 := am (Kd.R_below (rR HO332) hb); replace BK328 := bk BK328 hb; replace HB := bs hb; (try clear hb)))
   go_meet
   case rel => exact ⟨_, (true), rq, H', ⟨by first | omega | exact Nat.le_refl _⟩, ⟨bd BK328⟩, ⟨bq⟩⟩
  replace c6 := Bool.eq_false_iff.mpr c6
  subst c6
  rw [if_neg nf] at H
  have H' := am H
  clear H
  go_wp2_with (first | ((with_reducible refine gate_callee (f := 31) rfl ?_); refine gL (some 10) Tryz.func31 #[.slice A0 l0.length c0] ?_; (with_reducible refine (alphabet_Valid.calls k _ _ l0 false _ (cq HR0) HC0.out A5.out).mono ?_); rintro e w34 ⟨rfl, hb⟩; refine ⟨_, rfl, ?_⟩; replace BK328 := bk BK328 hb; replace HB := bs hb; (try clear hb)))
  go_meet
  case rel => exact ⟨_, (true), rq, H', ⟨by first | omega | exact Nat.le_refl _⟩, ⟨bd BK328⟩, ⟨bq⟩⟩
 case rest =>
  clear HC3
  obtain ⟨kq, x30_2, rfl, HA, HJ2, BK328, HB⟩ := hcut
  cases kq with
  | zero => exact absurd HA.out (by simp [paradigm_Valid.j0])
  | succ kj2 =>
   have H := HA.out
   clear HA
   simp only [paradigm_Valid.j0] at H
   by_cases c35 : x30_2 = true
   ·subst c35
    rw [if_pos rfl] at H
    obtain rfl := Option.some.inj H
    go_wp2
    go_ret
    exact ⟨eq', bq⟩
   replace c35 := Bool.eq_false_iff.mpr c35
   subst c35
   rw [if_neg nf] at H
   have H' := am H
   clear H
   obtain ⟨zbk, zbl, zbm, zbn, zbo, zbp⟩ := bc3 BK328
   go_wp2
   go_loopg [34] kj2 (fun kq v34 w' => ∃ (x34_2 : Int), v34 = .int .i64 x34_2 ∧ Aside0 (paradigm_Valid.l0 kq l0 l1_2 (l1_2.length : Int) x34_2 = some r) ∧ Aside0 (kq ≤ kj2) ∧ Aside0 (w'.heap[gb328]? = some (.cells #[.string a1_0, (.slice A1_1 l1_1.length c1_1), (.slice A1_2 l1_2.length c1_2)] 38 (0, 0))) ∧ Aside0 (Below w.heap.size w w'))
   case atStart => exact ⟨(0), rq, H', ⟨Nat.le_refl _⟩, ⟨bd BK328⟩, ⟨bq⟩⟩
   case round =>
    clear H'
    clear zbk zbl zbm zbn zbo zbp
    obtain ⟨x34_2, rfl, HA, HK2, BK328, HB⟩ := hrel
    cases gk with
    | zero => exact absurd HA.out (by simp [paradigm_Valid.l0])
    | succ k2 =>
     have H := HA.out
     clear HA
     simp only [paradigm_Valid.l0] at H
     by_cases c37 : x34_2 < (l1_2.length : Int)
     ·rw [if_pos c37] at H
      have c37b0 : decide (x34_2 < (l1_2.length : Int)) = true := decide_eq_true c37
      clear c37
      by_cases c38 : 0 ≤ x34_2
      ·rw [if_pos c38] at H
       have c38b0 : decide (0 ≤ x34_2) = true := decide_eq_true c38
       clear c38
       by_cases c39 : x34_2 < (l1_2.length : Int)
       ·rw [if_pos c39] at H
        have c39b0 : decide (x34_2 < (l1_2.length : Int)) = true := decide_eq_true c39
        clear c39
        by_cases c40 : ((rd_L11 l1_2 x34_2).length : Int) > 64
        ·rw [if_pos c40] at H
         have c40b0 : decide (64 < ((rd_L11 l1_2 x34_2).length : Int)) = true := decide_eq_true c40
         have c40b1 : decide (64 < (rd_L11 l1_2 x34_2).length) = true := decide_eq_true (by omega)
         clear c40
         obtain rfl := Option.some.inj H
         have p335 : 0 ≤ (x34_2 : Int) := oq
         have q335 : x34_2 < (l1_2.length : Int) := oq
         obtain ⟨ad335, A335_0, c335_0, e335, hx335_0, hl335_0, hi335_0⟩ := at_L11 HR1_2.out x34_2 p335 q335
         cases e335
         replace hx335_0 := cw hx335_0
         have HR335_0 := am hi335_0
         have HC335_0 := am hl335_0
         clear hi335_0 hl335_0
         replace p335 := eq_true p335
         replace q335 := eq_true q335
         go_wp2
         go_ret
         exact ⟨eq', bq⟩
        rw [if_neg c40] at H
        have c40b0 : decide (64 < ((rd_L11 l1_2 x34_2).length : Int)) = false := decide_eq_false c40
        have c40b1 : decide (64 < (rd_L11 l1_2 x34_2).length) = false := decide_eq_false (by omega)
        clear c40
        have H' := am H
        clear H
        have p335 : 0 ≤ (x34_2 : Int) := oq
        have q335 : x34_2 < (l1_2.length : Int) := oq
        obtain ⟨ad335, A335_0, c335_0, e335, hx335_0, hl335_0, hi335_0⟩ := at_L11 HR1_2.out x34_2 p335 q335
        cases e335
        replace hx335_0 := cw hx335_0
        have HR335_0 := am hi335_0
        have HC335_0 := am hl335_0
        clear hi335_0 hl335_0
        replace p335 := eq_true p335
        replace q335 := eq_true q335
        go_wp2
        go_loopg [43] k2 (fun kq v43 w' => ∃ (x43_3 : Int), v43 = .int .i64 x43_3 ∧ Aside0 (paradigm_Valid.l1 kq l0 l1_2 (l1_2.length : Int) x34_2 (rd_L11 l1_2 x34_2) ((rd_L11 l1_2 x34_2).length : Int) x43_3 = some r) ∧ Aside0 (kq ≤ k2) ∧ Aside0 (w'.heap[gb328]? = some (.cells #[.string a1_0, (.slice A1_1 l1_1.length c1_1), (.slice (some ad335) l1_2.length c1_2)] 38 (0, 0))) ∧ Aside0 (Below w.heap.size w w'))
        case atStart => exact ⟨(0), rq, H', ⟨Nat.le_refl _⟩, ⟨bd BK328⟩, ⟨bq⟩⟩
        case round =>
         clear H'
         clear c37b0 c38b0 c39b0 c40b0 c40b1 hx335_0 p335 q335
         obtain ⟨x43_3, rfl, HA, HK3, BK328, HB⟩ := hrel
         cases gk with
         | zero => exact absurd HA.out (by simp [paradigm_Valid.l1])
         | succ k3 =>
          have H := HA.out
          clear HA
          simp only [paradigm_Valid.l1] at H
          by_cases c41 : x43_3 < ((rd_L11 l1_2 x34_2).length : Int)
          ·rw [if_pos c41] at H
           have c41b0 : decide (x43_3 < ((rd_L11 l1_2 x34_2).length : Int)) = true := decide_eq_true c41
           clear c41
           by_cases c42 : 0 ≤ x43_3
           ·rw [if_pos c42] at H
            have c42b0 : decide (0 ≤ x43_3) = true := decide_eq_true c42
            clear c42
            by_cases c43 : x43_3 < ((rd_L11 l1_2 x34_2).length : Int)
            ·rw [if_pos c43] at H
             have c43b0 : decide (x43_3 < ((rd_L11 l1_2 x34_2).length : Int)) = true := decide_eq_true c43
             clear c43
             replace H := Option.bind_eq_some_iff.mp H
             obtain ⟨t338, A440, H⟩ := H
             (try dsimp only at H)
             have A44 := am A440
             clear A440
             by_cases c45 : t338 = true
             ·subst c45
              rw [if_pos rfl] at H
              replace H := Option.bind_eq_some_iff.mp H
              obtain ⟨t339, A460, H⟩ := H
              (try dsimp only at H)
              have A46 := am A460
              clear A460
              by_cases c47 : t339 = true
              ·subst c47
               rw [if_pos rfl] at H
               replace H := Option.bind_eq_some_iff.mp H
               obtain ⟨t340, A480, H⟩ := H
               (try dsimp only at H)
               have A48 := am A480
               clear A480
               by_cases c49 : t340 = true
               ·subst c49
                rw [if_pos rfl] at H
                have H' := am H
                clear H
                have p336 : 0 ≤ (x43_3 : Int) := oq
                have q336 : x43_3 < ((rd_L11 l1_2 x34_2).length : Int) := oq
                obtain ⟨ad336, A336_0, c336_0, e336, hx336_0, hx336_1, hx336_2, hl336_0, hi336_0⟩ := at_T79 HR335_0.out x43_3 p336 q336
                cases e336
                replace hx336_0 := cw hx336_0
                replace hx336_1 := cw hx336_1
                replace hx336_2 := cw hx336_2
                have HR336_0 := am hi336_0
                have HC336_0 := am hl336_0
                clear hi336_0 hl336_0
                replace p336 := eq_true p336
                replace q336 := eq_true q336
                go_wp2_with (first | ((with_reducible refine gate_dst (N := 8) rfl ?_); (try (refine gate_guard (by rfl) ?_; dsimp only)); refine bx 8 #[.slice none 0 0, .string (⟨#[]⟩ : ByteArray), .string (⟨#[]⟩ : ByteArray)] 79 ?_; intro gb337 hg w50 hbox hb; have BK337 := am hbox; have GE337 := sz hg; have NB328_337 := nl hg BK328; have NB337_328 := ng hg BK328; replace BK328 := bk BK328 hb; replace HB := bs hb; clear hb hbox hg; have hnb51 := NB337_328.out; have hnc51 := NB328_337.out; obtain ⟨zbq, zbr, zbs, zbt, zbu, zbv⟩ := bc3 BK337) | ((with_reducible refine gate_callee (f := 47) rfl ?_); refine gL (some 49) Tryz.func47 #[.slice A336_0 ((rd_T79 (rd_L11 l1_2 x34_2) x43_3).f0).length c336_0] ?_; (with_reducible refine (feature_Valid.calls k3 _ _ ((rd_T79 (rd_L11 l1_2 x34_2) x43_3).f0) true _ ?side1 ?side2 A44.out).mono ?_); (case side1 => exact Kd.C_below HR336_0.out bq); (case side2 => exact HC336_0.out); rintro e w53 ⟨rfl, hb⟩; refine ⟨_, rfl, ?_⟩; replace BK328 := am (blk_below (g := gb328) (o := .cells #[.string a1_0, .slice A1_1 l1_1.length c1_1, .slice (some ad335) l1_2.length c1_2] 38 (0, 0)) (bf BK328) hb); replace BK337 := am (blk_below (g := gb337) (o := .cells #[.slice A336_0 ((rd_T79 (rd_L11 l1_2 x34_2) x43_3).f0).length c336_0, .string ((rd_T79 (rd_L11 l1_2 x34_2) x43_3).f1), .string ((rd_T79 (rd_L11 l1_2 x34_2) x43_3).f2)] 79 (0, 0)) (bp BK337) hb); replace HB := bs hb; (try clear hb); obtain ⟨zbw, zbx, zby, zbz, zca, zcb⟩ := bc3 BK337) | (go_at_call 56; (with_reducible refine (alphabet_IsWord.calls _ _ l0 ((rd_T79 (rd_L11 l1_2 x34_2) x43_3).f1) true _ (cq HR0) HC0.out (Glob.below HG.out bq) A46.out).mono ?_); rintro e w55 ⟨rfl, hb⟩; replace BK328 := bk BK328 hb; replace BK337 := bk BK337 hb; replace HB := bs hb; (try clear hb); obtain ⟨zcc, zcd, zce, zcf, zcg, zch⟩ := bc3 BK337) | (go_at_call 56; (with_reducible refine (alphabet_IsWord.calls _ _ l0 ((rd_T79 (rd_L11 l1_2 x34_2) x43_3).f2) true _ (cq HR0) HC0.out (Glob.below HG.out bq) A48.out).mono ?_); rintro e w57 ⟨rfl, hb⟩; replace BK328 := bk BK328 hb; replace BK337 := bk BK337 hb; replace HB := bs hb; (try clear hb)))
                go_roundg k3
                case measure => have := HJ2.out; have := HK2.out; have := HK3.out; omega
                case rel => exact ⟨(wrap64 (x43_3 + 1)), rq, H', ⟨by have := HJ2.out; have := HK2.out; have := HK3.out; omega⟩, ⟨bd BK328⟩, ⟨bq⟩⟩
               replace c49 := Bool.eq_false_iff.mpr c49
               subst c49
               rw [if_neg nf] at H
               obtain rfl := Option.some.inj H
               have p336 : 0 ≤ (x43_3 : Int) := oq
               have q336 : x43_3 < ((rd_L11 l1_2 x34_2).length : Int) := oq
               obtain ⟨ad336, A336_0, c336_0, e336, hx336_0, hx336_1, hx336_2, hl336_0, hi336_0⟩ := at_T79 HR335_0.out x43_3 p336 q336
               cases e336
               replace hx336_0 := cw hx336_0
               replace hx336_1 := cw hx336_1
               replace hx336_2 := cw hx336_2
               have HR336_0 := am hi336_0
               have HC336_0 := am hl336_0
               clear hi336_0 hl336_0
               replace p336 := eq_true p336
               replace q336 := eq_true q336
               go_wp2_with (first | ((with_reducible refine gate_dst (N := 8) rfl ?_); (try (refine gate_guard (by rfl) ?_; dsimp only)); refine bx 8 #[.slice none 0 0, .string (⟨#[]⟩ : ByteArray), .string (⟨#[]⟩ : ByteArray)] 79 ?_; intro gb337 hg w58 hbox hb; have BK337 := am hbox; have GE337 := sz hg; have NB328_337 := nl hg BK328; have NB337_328 := ng hg BK328; replace BK328 := bk BK328 hb; replace HB := bs hb; clear hb hbox hg; have hnb59 := NB337_328.out; have hnc59 := NB328_337.out; obtain ⟨zci, zcj, zck, zcl, zcm, zcn⟩ := bc3 BK337) | ((with_reducible refine gate_callee (f := 47) rfl ?_); refine gL (some 49) Tryz.func47 #[.slice A336_0 ((rd_T79 (rd_L11 l1_2 x34_2) x43_3).f0).length c336_0] ?_; (with_reducible refine (feature_Valid.calls k3 _ _ ((rd_T79 (rd_L11 l1_2 x34_2) x43_3).f0) true _ ?side1 ?side2 A44.out).mono ?_); (case side1 => exact Kd.C_below HR336_0.out bq); (case side2 => exact HC336_0.out); rintro e w61 ⟨rfl, hb⟩; refine ⟨_, rfl, ?_⟩; replace BK328 := am (blk_below (g := gb328) (o := .cells #[.string a1_0, .slice A1_1 l1_1.length c1_1, .slice (some ad335) l1_2.length c1_2] 38 (0, 0)) (bf BK328) hb); replace BK337 := am (blk_below (g := gb337) (o := .cells #[.slice A336_0 ((rd_T79 (rd_L11 l1_2 x34_2) x43_3).f0).length c336_0, .string ((rd_T79 (rd_L11 l1_2 x34_2) x43_3).f1), .string ((rd_T79 (rd_L11 l1_2 x34_2) x43_3).f2)] 79 (0, 0)) (bp BK337) hb); replace HB := bs hb; (try clear hb); obtain ⟨zco, zcp, zcq, zcr, zcs, zct⟩ := bc3 BK337) | (go_at_call 56; (with_reducible refine (alphabet_IsWord.calls _ _ l0 ((rd_T79 (rd_L11 l1_2 x34_2) x43_3).f1) true _ (cq HR0) HC0.out (Glob.below HG.out bq) A46.out).mono ?_); rintro e w63 ⟨rfl, hb⟩; replace BK328 := bk BK328 hb; replace BK337 := bk BK337 hb; replace HB := bs hb; (try clear hb); obtain ⟨zcu, zcv, zcw, zcx, zcy, zcz⟩ := bc3 BK337) | (go_at_call 56; (with_reducible refine (alphabet_IsWord.calls _ _ l0 ((rd_T79 (rd_L11 l1_2 x34_2) x43_3).f2) false _ (cq HR0) HC0.out (Glob.below HG.out bq) A48.out).mono ?_); rintro e w65 ⟨rfl, hb⟩; replace BK328 := bk BK328 hb; replace BK337 := bk BK337 hb; replace HB := bs hb; (try clear hb)))
               go_ret
               exact ⟨eq', bq⟩
              replace c47 := Bool.eq_false_iff.mpr c47
              subst c47
              rw [if_neg nf] at H
              obtain rfl := Option.some.inj H
              have p336 : 0 ≤ (x43_3 : Int) := oq
              have q336 : x43_3 < ((rd_L11 l1_2 x34_2).length : Int) := oq
              obtain ⟨ad336, A336_0, c336_0, e336, hx336_0, hx336_1, hx336_2, hl336_0, hi336_0⟩ := at_T79 HR335_0.out x43_3 p336 q336
              cases e336
              replace hx336_0 := cw hx336_0
              replace hx336_1 := cw hx336_1
              replace hx336_2 := cw hx336_2
              have HR336_0 := am hi336_0
              have HC336_0 := am hl336_0
              clear hi336_0 hl336_0
              replace p336 := eq_true p336
              replace q336 := eq_true q336
              go_wp2_with (first | ((with_reducible refine gate_dst (N := 8) rfl ?_); (try (refine gate_guard (by rfl) ?_; dsimp only)); refine bx 8 #[.slice none 0 0, .string (⟨#[]⟩ : ByteArray), .string (⟨#[]⟩ : ByteArray)] 79 ?_; intro gb337 hg w66 hbox hb; have BK337 := am hbox; have GE337 := sz hg; have NB328_337 := nl hg BK328; have NB337_328 := ng hg BK328; replace BK328 := bk BK328 hb; replace HB := bs hb; clear hb hbox hg; have hnb67 := NB337_328.out; have hnc67 := NB328_337.out; obtain ⟨zda, zdb, zdc, zdd, zde, zdf⟩ := bc3 BK337) | ((with_reducible refine gate_callee (f := 47) rfl ?_); refine gL (some 49) Tryz.func47 #[.slice A336_0 ((rd_T79 (rd_L11 l1_2 x34_2) x43_3).f0).length c336_0] ?_; (with_reducible refine (feature_Valid.calls k3 _ _ ((rd_T79 (rd_L11 l1_2 x34_2) x43_3).f0) true _ ?side1 ?side2 A44.out).mono ?_); (case side1 => exact Kd.C_below HR336_0.out bq); (case side2 => exact HC336_0.out); rintro e w69 ⟨rfl, hb⟩; refine ⟨_, rfl, ?_⟩; replace BK328 := am (blk_below (g := gb328) (o := .cells #[.string a1_0, .slice A1_1 l1_1.length c1_1, .slice (some ad335) l1_2.length c1_2] 38 (0, 0)) (bf BK328) hb); replace BK337 := am (blk_below (g := gb337) (o := .cells #[.slice A336_0 ((rd_T79 (rd_L11 l1_2 x34_2) x43_3).f0).length c336_0, .string ((rd_T79 (rd_L11 l1_2 x34_2) x43_3).f1), .string ((rd_T79 (rd_L11 l1_2 x34_2) x43_3).f2)] 79 (0, 0)) (bp BK337) hb); replace HB := bs hb; (try clear hb); obtain ⟨zdg, zdh, zdi, zdj, zdk, zdl⟩ := bc3 BK337) | (go_at_call 56; (with_reducible refine (alphabet_IsWord.calls _ _ l0 ((rd_T79 (rd_L11 l1_2 x34_2) x43_3).f1) false _ (cq HR0) HC0.out (Glob.below HG.out bq) A46.out).mono ?_); rintro e w71 ⟨rfl, hb⟩; replace BK328 := bk BK328 hb; replace BK337 := bk BK337 hb; replace HB := bs hb; (try clear hb)))
              go_ret
              exact ⟨eq', bq⟩
             replace c45 := Bool.eq_false_iff.mpr c45
             subst c45
             rw [if_neg nf] at H
             obtain rfl := Option.some.inj H
             have p336 : 0 ≤ (x43_3 : Int) := oq
             have q336 : x43_3 < ((rd_L11 l1_2 x34_2).length : Int) := oq
             obtain ⟨ad336, A336_0, c336_0, e336, hx336_0, hx336_1, hx336_2, hl336_0, hi336_0⟩ := at_T79 HR335_0.out x43_3 p336 q336
             cases e336
             replace hx336_0 := cw hx336_0
             replace hx336_1 := cw hx336_1
             replace hx336_2 := cw hx336_2
             have HR336_0 := am hi336_0
             have HC336_0 := am hl336_0
             clear hi336_0 hl336_0
             replace p336 := eq_true p336
             replace q336 := eq_true q336
             go_wp2_with (first | ((with_reducible refine gate_dst (N := 8) rfl ?_); (try (refine gate_guard (by rfl) ?_; dsimp only)); refine bx 8 #[.slice none 0 0, .string (⟨#[]⟩ : ByteArray), .string (⟨#[]⟩ : ByteArray)] 79 ?_; intro gb337 hg w72 hbox hb; have BK337 := am hbox; have GE337 := sz hg; have NB328_337 := nl hg BK328; have NB337_328 := ng hg BK328; replace BK328 := bk BK328 hb; replace HB := bs hb; clear hb hbox hg; have hnb73 := NB337_328.out; have hnc73 := NB328_337.out; obtain ⟨zdm, zdn, zdo, zdp, zdq, zdr⟩ := bc3 BK337) | ((with_reducible refine gate_callee (f := 47) rfl ?_); refine gL (some 49) Tryz.func47 #[.slice A336_0 ((rd_T79 (rd_L11 l1_2 x34_2) x43_3).f0).length c336_0] ?_; (with_reducible refine (feature_Valid.calls k3 _ _ ((rd_T79 (rd_L11 l1_2 x34_2) x43_3).f0) false _ ?side1 ?side2 A44.out).mono ?_); (case side1 => exact Kd.C_below HR336_0.out bq); (case side2 => exact HC336_0.out); rintro e w75 ⟨rfl, hb⟩; refine ⟨_, rfl, ?_⟩; replace BK328 := am (blk_below (g := gb328) (o := .cells #[.string a1_0, .slice A1_1 l1_1.length c1_1, .slice (some ad335) l1_2.length c1_2] 38 (0, 0)) (bf BK328) hb); replace BK337 := am (blk_below (g := gb337) (o := .cells #[.slice A336_0 ((rd_T79 (rd_L11 l1_2 x34_2) x43_3).f0).length c336_0, .string ((rd_T79 (rd_L11 l1_2 x34_2) x43_3).f1), .string ((rd_T79 (rd_L11 l1_2 x34_2) x43_3).f2)] 79 (0, 0)) (bp BK337) hb); replace HB := bs hb; (try clear hb)))
             go_ret
             exact ⟨eq', bq⟩
            rw [if_neg c43] at H
            exact absurd H (by simp)
           rw [if_neg c42] at H
           exact absurd H (by simp)
          rw [if_neg c41] at H
          have c41b0 : decide (x43_3 < ((rd_L11 l1_2 x34_2).length : Int)) = false := decide_eq_false c41
          clear c41
          have H' := am H
          clear H
          go_wp2
          go_roundg k3
          case measure => have := HJ2.out; have := HK2.out; have := HK3.out; omega
          case rel => exact ⟨(wrap64 (x34_2 + 1)), rq, H', ⟨by have := HJ2.out; have := HK2.out; have := HK3.out; omega⟩, ⟨bd BK328⟩, ⟨bq⟩⟩
       rw [if_neg c39] at H
       exact absurd H (by simp)
      rw [if_neg c38] at H
      exact absurd H (by simp)
     rw [if_neg c37] at H
     have c37b0 : decide (x34_2 < (l1_2.length : Int)) = false := decide_eq_false c37
     clear c37
     obtain rfl := Option.some.inj H
     go_wp2
     go_ret
     exact ⟨eq', bq⟩
theorem lexicon_name.calls (k : Nat) (a0 : ByteArray) (r : Bool) (w : World) (h : lexicon_name.f k a0 = some r) :
  Calls Tryz.prog 63 #[.string a0] w fun e w' => e = .returned (.bool r) ∧ Drawn0 w w' := by
 have H : (lexicon_name.l0 k a0 (a0.size : Int) 0) = some r := h
 clear h
 have H' := am H
 clear H
 go_enter Tryz.func63, Tryz.ntmps63
 go_wp2
 go_loopg [7] k (fun kq v7 w' => ∃ (x7_1 : Int), v7 = .int .i64 x7_1 ∧ Aside0 (lexicon_name.l0 kq a0 (a0.size : Int) x7_1 = some r) ∧ Aside0 (kq ≤ k) ∧ Drawn0 w w')
 case atStart => exact ⟨(0), rq, H', ⟨Nat.le_refl _⟩, by repeat (first | exact Drawn0.refl _ | apply Drawn0.step)⟩
 case round =>
  clear H'
  obtain ⟨x7_1, rfl, HA, HK1, ⟨m1, rfl⟩⟩ := hrel
  cases gk with
  | zero => exact absurd HA.out (by simp [lexicon_name.l0])
  | succ k1 =>
   have H := HA.out
   clear HA
   simp only [lexicon_name.l0] at H
   by_cases c2 : x7_1 < (a0.size : Int)
   ·rw [if_pos c2] at H
    have c2b0 : decide (x7_1 < (a0.size : Int)) = true := decide_eq_true c2
    clear c2
    by_cases c3 : 0 ≤ x7_1
    ·rw [if_pos c3] at H
     have c3b0 : decide (0 ≤ x7_1) = true := decide_eq_true c3
     clear c3
     by_cases c4 : x7_1 < (a0.size : Int)
     ·rw [if_pos c4] at H
      have c4b0 : decide (x7_1 < (a0.size : Int)) = true := decide_eq_true c4
      clear c4
      by_cases c6 : (bt a0 x7_1) ≥ 97
      ·rw [if_pos c6] at H
       have c6b0 : decide (97 ≤ (bt a0 x7_1)) = true := decide_eq_true c6
       clear c6
       by_cases c7 : (bt a0 x7_1) ≤ 122
       ·rw [if_pos c7] at H
        have c7b0 : decide ((bt a0 x7_1) ≤ 122) = true := decide_eq_true c7
        clear c7
        have H' := am H
        clear H
        have p5 : 0 ≤ (x7_1 : Int) := oq
        have q5 : x7_1 < (a0.size : Int) := oq
        have hx5 := bt_at a0 x7_1
        replace p5 := eq_true p5
        replace q5 := eq_true q5
        go_wp2
        go_roundg k1
        case measure => have := HK1.out; omega
        case rel => exact ⟨(wrap64 (x7_1 + 1)), rq, H', ⟨by have := HK1.out; omega⟩, by repeat (first | exact Drawn0.refl _ | apply Drawn0.step)⟩
       rw [if_neg c7] at H
       have c7b0 : decide ((bt a0 x7_1) ≤ 122) = false := decide_eq_false c7
       clear c7
       by_cases c8 : (bt a0 x7_1) ≥ 48
       ·rw [if_pos c8] at H
        have c8b0 : decide (48 ≤ (bt a0 x7_1)) = true := decide_eq_true c8
        clear c8
        by_cases c9 : (bt a0 x7_1) ≤ 57
        ·rw [if_pos c9] at H
         have c9b0 : decide ((bt a0 x7_1) ≤ 57) = true := decide_eq_true c9
         clear c9
         have H' := am H
         clear H
         have p5 : 0 ≤ (x7_1 : Int) := oq
         have q5 : x7_1 < (a0.size : Int) := oq
         have hx5 := bt_at a0 x7_1
         replace p5 := eq_true p5
         replace q5 := eq_true q5
         go_wp2
         go_roundg k1
         case measure => have := HK1.out; omega
         case rel => exact ⟨(wrap64 (x7_1 + 1)), rq, H', ⟨by have := HK1.out; omega⟩, by repeat (first | exact Drawn0.refl _ | apply Drawn0.step)⟩
        rw [if_neg c9] at H
        have c9b0 : decide ((bt a0 x7_1) ≤ 57) = false := decide_eq_false c9
        clear c9
        by_cases c10 : (bt a0 x7_1) = 45
        ·rw [if_pos c10] at H
         have c10b0 : ((bt a0 x7_1) == 45) = true := beq_iff_eq.mpr c10
         have c10b1 : ((bt a0 x7_1) != 45) = false := bne_eq_false_iff_eq.mpr c10
         clear c10
         have H' := am H
         clear H
         have p5 : 0 ≤ (x7_1 : Int) := oq
         have q5 : x7_1 < (a0.size : Int) := oq
         have hx5 := bt_at a0 x7_1
         replace p5 := eq_true p5
         replace q5 := eq_true q5
         go_wp2
         go_roundg k1
         case measure => have := HK1.out; omega
         case rel => exact ⟨(wrap64 (x7_1 + 1)), rq, H', ⟨by have := HK1.out; omega⟩, by repeat (first | exact Drawn0.refl _ | apply Drawn0.step)⟩
        rw [if_neg c10] at H
        have c10b0 : ((bt a0 x7_1) == 45) = false := beq_eq_false_iff_ne.mpr c10
        have c10b1 : ((bt a0 x7_1) != 45) = true := bne_iff_ne.mpr c10
        by_cases c11 : ((bt a0 x7_1) = 95)
        ·rw [if_pos c11] at H
         have c11b0 : ((bt a0 x7_1) == 95) = true := beq_iff_eq.mpr c11
         have c11b1 : ((bt a0 x7_1) != 95) = false := bne_eq_false_iff_eq.mpr c11
         clear c11
         have H' := am H
         clear H
         have p5 : 0 ≤ (x7_1 : Int) := oq
         have q5 : x7_1 < (a0.size : Int) := oq
         have hx5 := bt_at a0 x7_1
         replace p5 := eq_true p5
         replace q5 := eq_true q5
         go_wp2
         go_roundg k1
         case measure => have := HK1.out; omega
         case rel => exact ⟨(wrap64 (x7_1 + 1)), rq, H', ⟨by have := HK1.out; omega⟩, by repeat (first | exact Drawn0.refl _ | apply Drawn0.step)⟩
        rw [if_neg c11] at H
        have c11b0 : ((bt a0 x7_1) == 95) = false := beq_eq_false_iff_ne.mpr c11
        have c11b1 : ((bt a0 x7_1) != 95) = true := bne_iff_ne.mpr c11
        obtain rfl := Option.some.inj H
        have p5 : 0 ≤ (x7_1 : Int) := oq
        have q5 : x7_1 < (a0.size : Int) := oq
        have hx5 := bt_at a0 x7_1
        replace p5 := eq_true p5
        replace q5 := eq_true q5
        go_wp2
        go_ret
        exact ⟨by first | rfl | (simp; done) | (simp [*]; done) | (congr 2; cases hq_ : a0.toList <;> rfl) | (cases hq_ : a0.toList <;> simp [hq_]), by repeat (first | exact Drawn0.refl _ | apply Drawn0.step)⟩
       rw [if_neg c8] at H
       have c8b0 : decide (48 ≤ (bt a0 x7_1)) = false := decide_eq_false c8
       clear c8
       by_cases c12 : (bt a0 x7_1) = 45
       ·rw [if_pos c12] at H
        have c12b0 : ((bt a0 x7_1) == 45) = true := beq_iff_eq.mpr c12
        have c12b1 : ((bt a0 x7_1) != 45) = false := bne_eq_false_iff_eq.mpr c12
        clear c12
        have H' := am H
        clear H
        have p5 : 0 ≤ (x7_1 : Int) := oq
        have q5 : x7_1 < (a0.size : Int) := oq
        have hx5 := bt_at a0 x7_1
        replace p5 := eq_true p5
        replace q5 := eq_true q5
        go_wp2
        go_roundg k1
        case measure => have := HK1.out; omega
        case rel => exact ⟨(wrap64 (x7_1 + 1)), rq, H', ⟨by have := HK1.out; omega⟩, by repeat (first | exact Drawn0.refl _ | apply Drawn0.step)⟩
       rw [if_neg c12] at H
       have c12b0 : ((bt a0 x7_1) == 45) = false := beq_eq_false_iff_ne.mpr c12
       have c12b1 : ((bt a0 x7_1) != 45) = true := bne_iff_ne.mpr c12
       by_cases c13 : ((bt a0 x7_1) = 95)
       ·rw [if_pos c13] at H
        have c13b0 : ((bt a0 x7_1) == 95) = true := beq_iff_eq.mpr c13
        have c13b1 : ((bt a0 x7_1) != 95) = false := bne_eq_false_iff_eq.mpr c13
        clear c13
        have H' := am H
        clear H
        have p5 : 0 ≤ (x7_1 : Int) := oq
        have q5 : x7_1 < (a0.size : Int) := oq
        have hx5 := bt_at a0 x7_1
        replace p5 := eq_true p5
        replace q5 := eq_true q5
        go_wp2
        go_roundg k1
        case measure => have := HK1.out; omega
        case rel => exact ⟨(wrap64 (x7_1 + 1)), rq, H', ⟨by have := HK1.out; omega⟩, by repeat (first | exact Drawn0.refl _ | apply Drawn0.step)⟩
       rw [if_neg c13] at H
       have c13b0 : ((bt a0 x7_1) == 95) = false := beq_eq_false_iff_ne.mpr c13
       have c13b1 : ((bt a0 x7_1) != 95) = true := bne_iff_ne.mpr c13
       obtain rfl := Option.some.inj H
       have p5 : 0 ≤ (x7_1 : Int) := oq
       have q5 : x7_1 < (a0.size : Int) := oq
       have hx5 := bt_at a0 x7_1
       replace p5 := eq_true p5
       replace q5 := eq_true q5
       go_wp2
       go_ret
       exact ⟨by first | rfl | (simp; done) | (simp [*]; done) | (congr 2; cases hq_ : a0.toList <;> rfl) | (cases hq_ : a0.toList <;> simp [hq_]), by repeat (first | exact Drawn0.refl _ | apply Drawn0.step)⟩
      rw [if_neg c6] at H
      have c6b0 : decide (97 ≤ (bt a0 x7_1)) = false := decide_eq_false c6
      clear c6
      by_cases c14 : (bt a0 x7_1) ≥ 48
      ·rw [if_pos c14] at H
       have c14b0 : decide (48 ≤ (bt a0 x7_1)) = true := decide_eq_true c14
       clear c14
       by_cases c15 : (bt a0 x7_1) ≤ 57
       ·rw [if_pos c15] at H
        have c15b0 : decide ((bt a0 x7_1) ≤ 57) = true := decide_eq_true c15
        clear c15
        have H' := am H
        clear H
        have p5 : 0 ≤ (x7_1 : Int) := oq
        have q5 : x7_1 < (a0.size : Int) := oq
        have hx5 := bt_at a0 x7_1
        replace p5 := eq_true p5
        replace q5 := eq_true q5
        go_wp2
        go_roundg k1
        case measure => have := HK1.out; omega
        case rel => exact ⟨(wrap64 (x7_1 + 1)), rq, H', ⟨by have := HK1.out; omega⟩, by repeat (first | exact Drawn0.refl _ | apply Drawn0.step)⟩
       rw [if_neg c15] at H
       have c15b0 : decide ((bt a0 x7_1) ≤ 57) = false := decide_eq_false c15
       clear c15
       by_cases c16 : (bt a0 x7_1) = 45
       ·rw [if_pos c16] at H
        have c16b0 : ((bt a0 x7_1) == 45) = true := beq_iff_eq.mpr c16
        have c16b1 : ((bt a0 x7_1) != 45) = false := bne_eq_false_iff_eq.mpr c16
        clear c16
        have H' := am H
        clear H
        have p5 : 0 ≤ (x7_1 : Int) := oq
        have q5 : x7_1 < (a0.size : Int) := oq
        have hx5 := bt_at a0 x7_1
        replace p5 := eq_true p5
        replace q5 := eq_true q5
        go_wp2
        go_roundg k1
        case measure => have := HK1.out; omega
        case rel => exact ⟨(wrap64 (x7_1 + 1)), rq, H', ⟨by have := HK1.out; omega⟩, by repeat (first | exact Drawn0.refl _ | apply Drawn0.step)⟩
       rw [if_neg c16] at H
       have c16b0 : ((bt a0 x7_1) == 45) = false := beq_eq_false_iff_ne.mpr c16
       have c16b1 : ((bt a0 x7_1) != 45) = true := bne_iff_ne.mpr c16
       by_cases c17 : ((bt a0 x7_1) = 95)
       ·rw [if_pos c17] at H
        have c17b0 : ((bt a0 x7_1) == 95) = true := beq_iff_eq.mpr c17
        have c17b1 : ((bt a0 x7_1) != 95) = false := bne_eq_false_iff_eq.mpr c17
        clear c17
        have H' := am H
        clear H
        have p5 : 0 ≤ (x7_1 : Int) := oq
        have q5 : x7_1 < (a0.size : Int) := oq
        have hx5 := bt_at a0 x7_1
        replace p5 := eq_true p5
        replace q5 := eq_true q5
        go_wp2
        go_roundg k1
        case measure => have := HK1.out; omega
        case rel => exact ⟨(wrap64 (x7_1 + 1)), rq, H', ⟨by have := HK1.out; omega⟩, by repeat (first | exact Drawn0.refl _ | apply Drawn0.step)⟩
       rw [if_neg c17] at H
       have c17b0 : ((bt a0 x7_1) == 95) = false := beq_eq_false_iff_ne.mpr c17
       have c17b1 : ((bt a0 x7_1) != 95) = true := bne_iff_ne.mpr c17
       obtain rfl := Option.some.inj H
       have p5 : 0 ≤ (x7_1 : Int) := oq
       have q5 : x7_1 < (a0.size : Int) := oq
       have hx5 := bt_at a0 x7_1
       replace p5 := eq_true p5
       replace q5 := eq_true q5
       go_wp2
       go_ret
       exact ⟨by first | rfl | (simp; done) | (simp [*]; done) | (congr 2; cases hq_ : a0.toList <;> rfl) | (cases hq_ : a0.toList <;> simp [hq_]), by repeat (first | exact Drawn0.refl _ | apply Drawn0.step)⟩
      rw [if_neg c14] at H
      have c14b0 : decide (48 ≤ (bt a0 x7_1)) = false := decide_eq_false c14
      clear c14
      by_cases c18 : (bt a0 x7_1) = 45
      ·rw [if_pos c18] at H
       have c18b0 : ((bt a0 x7_1) == 45) = true := beq_iff_eq.mpr c18
       have c18b1 : ((bt a0 x7_1) != 45) = false := bne_eq_false_iff_eq.mpr c18
       clear c18
       have H' := am H
       clear H
       have p5 : 0 ≤ (x7_1 : Int) := oq
       have q5 : x7_1 < (a0.size : Int) := oq
       have hx5 := bt_at a0 x7_1
       replace p5 := eq_true p5
       replace q5 := eq_true q5
       go_wp2
       go_roundg k1
       case measure => have := HK1.out; omega
       case rel => exact ⟨(wrap64 (x7_1 + 1)), rq, H', ⟨by have := HK1.out; omega⟩, by repeat (first | exact Drawn0.refl _ | apply Drawn0.step)⟩
      rw [if_neg c18] at H
      have c18b0 : ((bt a0 x7_1) == 45) = false := beq_eq_false_iff_ne.mpr c18
      have c18b1 : ((bt a0 x7_1) != 45) = true := bne_iff_ne.mpr c18
      by_cases c19 : ((bt a0 x7_1) = 95)
      ·rw [if_pos c19] at H
       have c19b0 : ((bt a0 x7_1) == 95) = true := beq_iff_eq.mpr c19
       have c19b1 : ((bt a0 x7_1) != 95) = false := bne_eq_false_iff_eq.mpr c19
       clear c19
       have H' := am H
       clear H
       have p5 : 0 ≤ (x7_1 : Int) := oq
       have q5 : x7_1 < (a0.size : Int) := oq
       have hx5 := bt_at a0 x7_1
       replace p5 := eq_true p5
       replace q5 := eq_true q5
       go_wp2
       go_roundg k1
       case measure => have := HK1.out; omega
       case rel => exact ⟨(wrap64 (x7_1 + 1)), rq, H', ⟨by have := HK1.out; omega⟩, by repeat (first | exact Drawn0.refl _ | apply Drawn0.step)⟩
      rw [if_neg c19] at H
      have c19b0 : ((bt a0 x7_1) == 95) = false := beq_eq_false_iff_ne.mpr c19
      have c19b1 : ((bt a0 x7_1) != 95) = true := bne_iff_ne.mpr c19
      obtain rfl := Option.some.inj H
      have p5 : 0 ≤ (x7_1 : Int) := oq
      have q5 : x7_1 < (a0.size : Int) := oq
      have hx5 := bt_at a0 x7_1
      replace p5 := eq_true p5
      replace q5 := eq_true q5
      go_wp2
      go_ret
      exact ⟨by first | rfl | (simp; done) | (simp [*]; done) | (congr 2; cases hq_ : a0.toList <;> rfl) | (cases hq_ : a0.toList <;> simp [hq_]), by repeat (first | exact Drawn0.refl _ | apply Drawn0.step)⟩
     rw [if_neg c4] at H
     exact absurd H (by simp)
    rw [if_neg c3] at H
    exact absurd H (by simp)
   rw [if_neg c2] at H
   have c2b0 : decide (x7_1 < (a0.size : Int)) = false := decide_eq_false c2
   clear c2
   obtain rfl := Option.some.inj H
   go_wp2
   go_ret
   exact ⟨by first | rfl | (simp; done) | (simp [*]; done) | (congr 2; cases hq_ : a0.toList <;> rfl) | (cases hq_ : a0.toList <;> simp [hq_]), by repeat (first | exact Drawn0.refl _ | apply Drawn0.step)⟩
theorem SeenIds.look {w : World} {b n : Nat} {f : List UInt8 → Bool} (h : SeenIds w b n f) {s : ByteArray} (hs : s.size ≤ 140737488355328) : (Instr.lookup 128 (.map (some b)) (.string s) false).run Tryz.prog w = .ok (.bool (f s.toList)) w := by
 obtain ⟨D, h1, h2, h3⟩ := h
 obtain ⟨v, ps, hrun, hv⟩ := h1.lookup idsLaw Tryz.underlying128 (idsZero w) (plainElem_bool Tryz.underlying4 false) (WideMaps.keyOf_string_mk Tryz.underlying9 (s := s) (by unfold maxLen; omega))
 rw [h3 s] at hv
 unfold plainElem at hv
 rw [Tryz.underlying4] at hv
 cases v <;> simp at hv
 obtain ⟨rfl, _⟩ := hv
 exact hrun
theorem ids_made (w : World) : SeenIds (w.alloc (.map #[] 0)) w.heap.size 0 (fun _ => false) :=
  ⟨.map [], World.ownsMap_made _ _ _ _, Maps.isMap_empty, fun _ => rfl⟩
theorem SeenIds.put {b n : Nat} {f : List UInt8 → Bool} {D : DataW Unit} {w1 : World} {s : ByteArray} (h2 : Maps.IsMap D) (h3 : ∀ s : ByteArray, D.atKey (.string s.data.toList) (.lit (.bool false)) = .lit (.bool (f s.toList)))
  (h1 : w1.ownsMap Tryz.prog 9 (plainElem Tryz.prog 4) b n (D.put (.string s.data.toList) (.lit (.bool true)))) : SeenIds w1 b n (fun x => f x || s.toList == x) := by
 refine ⟨_, h1, ?_, fun t => ?_⟩
 ·obtain ⟨es, rfl⟩ := h2
  exact ⟨_, rfl⟩
 by_cases e : s = t
 ·subst e
  rw [Maps.atKey_put_same h2 (show WideAt.IsKeyLit (.string s.data.toList) from trivial)]
  simp
 rw [Maps.atKey_put_other (fun x => e (by
  injection x with x
  cases s; cases t
  simp_all)), h3 t]
 have : (s.toList == t.toList) = false := by
  rw [beq_eq_false_iff_ne]
  exact fun x => e (ids_inj x)
 simp [this]
theorem SeenIds.congr {w : World} {b n : Nat} {f g : List UInt8 → Bool} (h : SeenIds w b n f) (e : ∀ x, f x = g x) : SeenIds w b n g := by
 have : f = g := funext e
 exact this ▸ h
theorem lexicon_Valid.calls (k : Nat) (A0 : Option Addr) (c0 : Nat) (a : List S48) (A1 : Option Addr) (c1 : Nat) (l : List S34) (r : Bool) (w : World) (hr0 : Kd.C k48 w A0 a.length a) (hc0 : a.length ≤ c0) (hr1 : Kd.C k34 w A1 l.length l) (hc1 : l.length ≤ c1) (hG : Glob w) (h : lexicon_Valid.f k a l = some r) :
  Calls Tryz.prog 34 #[.slice A0 a.length c0, .slice A1 l.length c1] w fun e w' => e = .returned (.bool r) ∧ Below w.heap.size w w' := by
 have hmm := @run_makeMap Tryz.prog
 unfold lexicon_Valid.f at h
 obtain ⟨t, ht, h⟩ := Option.bind_eq_some_iff.1 h
 have HR0 := am hr0
 have HC0 := am hc0
 have HR1 := am hr1
 have HC1 := am hc1
 have HG := am hG
 have HT := am ht
 clear hr0 hc0 hr1 hc1 hG ht
 cases t
 ·rw [if_pos rfl] at h
  obtain rfl := Option.some.inj h
  clear h hmm
  go_enter Tryz.func34, Tryz.ntmps34
  go_wp2_with (first | (go_at_call 31; (with_reducible refine (alphabet_Valid.calls k A0 c0 a false _ HR0.out HC0.out HT.out).mono ?_); rintro e w2 ⟨rfl, hb⟩; have HB2 := am hb; clear hb))
  go_ret
  exact ⟨rfl, HB2.out⟩
 rw [if_neg (by decide)] at h
 by_cases h2 : (l.length : Int) > 256
 ·rw [if_pos h2] at h
  obtain rfl := Option.some.inj h
  have b2 : decide (256 < (l.length : Int)) = true := decide_eq_true h2
  clear h h2 hmm
  go_enter Tryz.func34, Tryz.ntmps34
  go_wp2_with (first | (go_at_call 31; (with_reducible refine (alphabet_Valid.calls k A0 c0 a true _ HR0.out HC0.out HT.out).mono ?_); rintro e w2 ⟨rfl, hb⟩; have HB2 := am hb; clear hb))
  go_ret
  exact ⟨rfl, HB2.out⟩
 rw [if_neg h2] at h
 have b2 : decide (256 < (l.length : Int)) = false := decide_eq_false h2
 have L8 := am h2
 have H' := am h
 clear h h2
 go_enter Tryz.func34, Tryz.ntmps34
 go_wp2_with (first | (go_at_call 31; (with_reducible refine (alphabet_Valid.calls k A0 c0 a true _ HR0.out HC0.out HT.out).mono ?_); rintro e w2 ⟨rfl, hb⟩; have HB2 := am hb; clear hb))
 clear hmm
 have hS := am (ids_made w2)
 go_loopg [19] (l.length + 1) (fun kq v19 w' => ∃ (i : Nat) (seen : List (List UInt8)), v19 = .int .i64 (i : Int) ∧ Aside0 (i ≤ l.length) ∧ Aside0 (l.length - i < kq) ∧ Aside0 (lexGo k a seen (l.drop i) = some r) ∧ Aside0 (SeenIds w' w2.heap.size i (isSeen seen)) ∧ Aside0 (Below w.heap.size w w'))
 case atStart => exact ⟨0, [], (by first | rfl | (simp; done)), ⟨Nat.zero_le _⟩, ⟨by omega⟩, H', ⟨hS.out.congr (fun x => by simp [isSeen])⟩, ⟨below_alloc HB2.out _⟩⟩
 case round =>
  clear H' hS
  obtain ⟨i, seen, rfl, IM, IK, IA, IS, IB⟩ := hrel
  obtain ⟨k1, rfl⟩ : ∃ k1, gk = k1 + 1 := ⟨gk - 1, by have := IK.out; omega⟩
  by_cases c5 : i < l.length
  ·obtain ⟨ad, A4, c4, ead, hx0, hx1, hx2, hx3, hx4, hl4, hi4⟩ := at_T34 (Kd.C_below HR1.out IB.out) (i : Int) (by omega) (by omega)
   subst ead
   rw [Int.toNat_natCast] at hx0 hx1 hx2 hx3 hx4
   have H := IA.out
   rw [List.drop_eq_getElem_cons c5, show l[i] = rd_T34 l (i : Int) by simp [rd_T34, List.getD, List.getElem?_eq_getElem c5], lexGo] at H
   have p1 : (0 ≤ (i : Int)) = True := eq_true (by omega)
   have q2 : ((i : Int) < (l.length : Int)) = True := eq_true (by omega)
   have q2b : decide ((i : Int) < (l.length : Int)) = true := decide_eq_true (by omega)
   have hw1 : wrap64 ((i : Int) + 1) = (i : Int) + 1 := by have := L8.out; unfold wrap64; omega
   have CI := am c5
   have L4 := am hl4
   have I4 := am hi4
   clear hl4 hi4 IA
   obtain ⟨x, hx⟩ : ∃ x, rd_T34 l (i : Int) = x := ⟨_, rfl⟩
   rw [hx] at H hx0 hx1 hx2 hx3 hx4 L4 I4
   clear hx
   by_cases c6 : x.f0.size ≤ 140737488355328
   ·rw [if_pos c6] at H
    obtain ⟨bad, hbad, H⟩ := Option.bind_eq_some_iff.1 H
    have hlo : ∀ o : Obj, (Instr.lookup 128 (.map (some w2.heap.size)) (.string x.f0) false).run Tryz.prog (wr.alloc o) = .ok (.bool (isSeen seen x.f0.toList)) (wr.alloc o) := fun o => (IS.out.step (below_alloc (Below.refl _ _) o)).look c6
    have C6 := am c6
    clear c5 c6
    unfold lexBad at hbad
    by_cases d0 : isSeen seen x.f0.toList = true
    ·rw [if_pos d0] at hbad
     obtain rfl := Option.some.inj hbad
     rw [if_pos rfl] at H
     obtain rfl := Option.some.inj H
     clear H hbad
     go_wp2
     go_ret
     exact ⟨rfl, below_alloc IB.out _⟩
    rw [if_neg d0] at hbad
    replace d0 := Bool.eq_false_iff.mpr d0
    have BXa := am (blk_new wr (.cells #[.string x.f0, .string x.f1, .string x.f2, .string x.f3, .slice A4 x.f4.length c4] 34))
    have HXWa := am (below_alloc (Below.refl wr.heap.size wr) (.cells #[.string x.f0, .string x.f1, .string x.f2, .string x.f3, .slice A4 x.f4.length c4] 34))
    have HBa := am (below_alloc IB.out (.cells #[.string x.f0, .string x.f1, .string x.f2, .string x.f3, .slice A4 x.f4.length c4] 34))
    obtain ⟨t1, ht1, hbad⟩ := Option.bind_eq_some_iff.1 hbad
    have T1 := am ht1
    clear ht1
    cases t1
    ·rw [if_pos rfl] at hbad
     obtain rfl := Option.some.inj hbad
     rw [if_pos rfl] at H
     obtain rfl := Option.some.inj H
     clear H hbad
     go_wp2_with (first | (go_at_call 63; (with_reducible refine (lexicon_name.calls k x.f0 false _ T1.out).mono ?_); rintro e wb ⟨rfl, hdr⟩; have hb := hdr.below; have BXb := am (blk_below BXa.out hb); have HBb := am (below_step HBa.out hb); have HXWb := am (below_step HXWa.out hb); have hzb_0 := ((blk_cell BXb.out 0).trans rfl : _ = some (.string x.f0)); have hzb_1 := ((blk_cell BXb.out 1).trans rfl : _ = some (.string x.f1)); have hzb_2 := ((blk_cell BXb.out 2).trans rfl : _ = some (.string x.f2)); have hzb_3 := ((blk_cell BXb.out 3).trans rfl : _ = some (.string x.f3)); have hzb_4 := ((blk_cell BXb.out 4).trans rfl : _ = some (.slice A4 x.f4.length c4)); clear hb; clear hdr))
     go_ret
     exact ⟨rfl, HBb.out⟩
    rw [if_neg (by decide)] at hbad
    obtain ⟨t2, ht2, hbad⟩ := Option.bind_eq_some_iff.1 hbad
    have T2 := am ht2
    clear ht2
    cases t2
    ·rw [if_pos rfl] at hbad
     obtain rfl := Option.some.inj hbad
     rw [if_pos rfl] at H
     obtain rfl := Option.some.inj H
     clear H hbad
     go_wp2_with (first | (go_at_call 63; (with_reducible refine (lexicon_name.calls k x.f0 true _ T1.out).mono ?_); rintro e wb ⟨rfl, hdr⟩; have hb := hdr.below; have BXb := am (blk_below BXa.out hb); have HBb := am (below_step HBa.out hb); have HXWb := am (below_step HXWa.out hb); have hzb_0 := ((blk_cell BXb.out 0).trans rfl : _ = some (.string x.f0)); have hzb_1 := ((blk_cell BXb.out 1).trans rfl : _ = some (.string x.f1)); have hzb_2 := ((blk_cell BXb.out 2).trans rfl : _ = some (.string x.f2)); have hzb_3 := ((blk_cell BXb.out 3).trans rfl : _ = some (.string x.f3)); have hzb_4 := ((blk_cell BXb.out 4).trans rfl : _ = some (.slice A4 x.f4.length c4)); clear hb; clear hdr) | (go_at_call 63; (with_reducible refine (lexicon_name.calls k x.f1 false _ T2.out).mono ?_); rintro e wc ⟨rfl, hdr⟩; have hb := hdr.below; have BXc := am (blk_below BXb.out hb); have HBc := am (below_step HBb.out hb); have HXWc := am (below_step HXWb.out hb); have hzc_0 := ((blk_cell BXc.out 0).trans rfl : _ = some (.string x.f0)); have hzc_1 := ((blk_cell BXc.out 1).trans rfl : _ = some (.string x.f1)); have hzc_2 := ((blk_cell BXc.out 2).trans rfl : _ = some (.string x.f2)); have hzc_3 := ((blk_cell BXc.out 3).trans rfl : _ = some (.string x.f3)); have hzc_4 := ((blk_cell BXc.out 4).trans rfl : _ = some (.slice A4 x.f4.length c4)); clear hb; clear hdr))
     go_ret
     exact ⟨rfl, HBc.out⟩
    rw [if_neg (by decide)] at hbad
    obtain ⟨t3, ht3, hbad⟩ := Option.bind_eq_some_iff.1 hbad
    by_cases d3 : x.f3.toList = []
    ·rw [if_pos d3] at ht3
     obtain rfl := Option.some.inj ht3
     rw [if_neg (by decide)] at hbad
     have d3b : x.f3.toList.isEmpty = true := by rw [d3]; rfl
     clear d3 ht3
     obtain ⟨t4, ht4, hbad⟩ := Option.bind_eq_some_iff.1 hbad
     have T4 := am ht4
     clear ht4
     cases t4
     ·rw [if_pos rfl] at hbad
      obtain rfl := Option.some.inj hbad
      rw [if_pos rfl] at H
      obtain rfl := Option.some.inj H
      clear H hbad
      go_wp2_with (first | (go_at_call 63; (with_reducible refine (lexicon_name.calls k x.f0 true _ T1.out).mono ?_); rintro e wb ⟨rfl, hdr⟩; have hb := hdr.below; have BXb := am (blk_below BXa.out hb); have HBb := am (below_step HBa.out hb); have HXWb := am (below_step HXWa.out hb); have hzb_0 := ((blk_cell BXb.out 0).trans rfl : _ = some (.string x.f0)); have hzb_1 := ((blk_cell BXb.out 1).trans rfl : _ = some (.string x.f1)); have hzb_2 := ((blk_cell BXb.out 2).trans rfl : _ = some (.string x.f2)); have hzb_3 := ((blk_cell BXb.out 3).trans rfl : _ = some (.string x.f3)); have hzb_4 := ((blk_cell BXb.out 4).trans rfl : _ = some (.slice A4 x.f4.length c4)); clear hb; clear hdr) | (go_at_call 63; (with_reducible refine (lexicon_name.calls k x.f1 true _ T2.out).mono ?_); rintro e wc ⟨rfl, hdr⟩; have hb := hdr.below; have BXc := am (blk_below BXb.out hb); have HBc := am (below_step HBb.out hb); have HXWc := am (below_step HXWb.out hb); have hzc_0 := ((blk_cell BXc.out 0).trans rfl : _ = some (.string x.f0)); have hzc_1 := ((blk_cell BXc.out 1).trans rfl : _ = some (.string x.f1)); have hzc_2 := ((blk_cell BXc.out 2).trans rfl : _ = some (.string x.f2)); have hzc_3 := ((blk_cell BXc.out 3).trans rfl : _ = some (.string x.f3)); have hzc_4 := ((blk_cell BXc.out 4).trans rfl : _ = some (.slice A4 x.f4.length c4)); clear hb; clear hdr) | (go_at_call 56; (with_reducible refine (alphabet_IsWord.calls A0 c0 a x.f2 false _ (Kd.C_below HR0.out HBc.out) HC0.out (Glob.below HG.out HBc.out) T4.out).mono ?_); rintro e we ⟨rfl, hb⟩; have BXe := am (blk_below BXc.out hb); have HBe := am (below_step HBc.out hb); have HXWe := am (below_step HXWc.out hb); have hze_0 := ((blk_cell BXe.out 0).trans rfl : _ = some (.string x.f0)); have hze_1 := ((blk_cell BXe.out 1).trans rfl : _ = some (.string x.f1)); have hze_2 := ((blk_cell BXe.out 2).trans rfl : _ = some (.string x.f2)); have hze_3 := ((blk_cell BXe.out 3).trans rfl : _ = some (.string x.f3)); have hze_4 := ((blk_cell BXe.out 4).trans rfl : _ = some (.slice A4 x.f4.length c4)); clear hb))
      go_ret
      exact ⟨rfl, HBe.out⟩
     rw [if_neg (by decide)] at hbad
     obtain ⟨t5, ht5, hbad⟩ := Option.bind_eq_some_iff.1 hbad
     have T5 := am ht5
     clear ht5
     cases t5
     ·obtain rfl : true = bad := Option.some.inj hbad
      rw [if_pos rfl] at H
      obtain rfl := Option.some.inj H
      clear H hbad
      go_wp2_with (first | (go_at_call 63; (with_reducible refine (lexicon_name.calls k x.f0 true _ T1.out).mono ?_); rintro e wb ⟨rfl, hdr⟩; have hb := hdr.below; have BXb := am (blk_below BXa.out hb); have HBb := am (below_step HBa.out hb); have HXWb := am (below_step HXWa.out hb); have hzb_0 := ((blk_cell BXb.out 0).trans rfl : _ = some (.string x.f0)); have hzb_1 := ((blk_cell BXb.out 1).trans rfl : _ = some (.string x.f1)); have hzb_2 := ((blk_cell BXb.out 2).trans rfl : _ = some (.string x.f2)); have hzb_3 := ((blk_cell BXb.out 3).trans rfl : _ = some (.string x.f3)); have hzb_4 := ((blk_cell BXb.out 4).trans rfl : _ = some (.slice A4 x.f4.length c4)); clear hb; clear hdr) | (go_at_call 63; (with_reducible refine (lexicon_name.calls k x.f1 true _ T2.out).mono ?_); rintro e wc ⟨rfl, hdr⟩; have hb := hdr.below; have BXc := am (blk_below BXb.out hb); have HBc := am (below_step HBb.out hb); have HXWc := am (below_step HXWb.out hb); have hzc_0 := ((blk_cell BXc.out 0).trans rfl : _ = some (.string x.f0)); have hzc_1 := ((blk_cell BXc.out 1).trans rfl : _ = some (.string x.f1)); have hzc_2 := ((blk_cell BXc.out 2).trans rfl : _ = some (.string x.f2)); have hzc_3 := ((blk_cell BXc.out 3).trans rfl : _ = some (.string x.f3)); have hzc_4 := ((blk_cell BXc.out 4).trans rfl : _ = some (.slice A4 x.f4.length c4)); clear hb; clear hdr) | (go_at_call 56; (with_reducible refine (alphabet_IsWord.calls A0 c0 a x.f2 true _ (Kd.C_below HR0.out HBc.out) HC0.out (Glob.below HG.out HBc.out) T4.out).mono ?_); rintro e we ⟨rfl, hb⟩; have BXe := am (blk_below BXc.out hb); have HBe := am (below_step HBc.out hb); have HXWe := am (below_step HXWc.out hb); have hze_0 := ((blk_cell BXe.out 0).trans rfl : _ = some (.string x.f0)); have hze_1 := ((blk_cell BXe.out 1).trans rfl : _ = some (.string x.f1)); have hze_2 := ((blk_cell BXe.out 2).trans rfl : _ = some (.string x.f2)); have hze_3 := ((blk_cell BXe.out 3).trans rfl : _ = some (.string x.f3)); have hze_4 := ((blk_cell BXe.out 4).trans rfl : _ = some (.slice A4 x.f4.length c4)); clear hb) | (go_at_call 47; (with_reducible refine (feature_Valid.calls k A4 c4 x.f4 false _ (Kd.C_below I4.out HXWe.out) L4.out T5.out).mono ?_); rintro e wf ⟨rfl, hb⟩; have BXf := am (blk_below BXe.out hb); have HBf := am (below_step HBe.out hb); have HXWf := am (below_step HXWe.out hb); have hzf_0 := ((blk_cell BXf.out 0).trans rfl : _ = some (.string x.f0)); have hzf_1 := ((blk_cell BXf.out 1).trans rfl : _ = some (.string x.f1)); have hzf_2 := ((blk_cell BXf.out 2).trans rfl : _ = some (.string x.f2)); have hzf_3 := ((blk_cell BXf.out 3).trans rfl : _ = some (.string x.f3)); have hzf_4 := ((blk_cell BXf.out 4).trans rfl : _ = some (.slice A4 x.f4.length c4)); clear hb))
      go_ret
      exact ⟨rfl, HBf.out⟩
     obtain rfl : false = bad := Option.some.inj hbad
     rw [if_neg (by decide)] at H
     have HN := am H
     clear H hbad
     have hkey : keyOf Tryz.prog 9 (.string x.f0) = some (.string x.f0.data.toList) := WideMaps.keyOf_string_mk Tryz.underlying9 (by have := C6.out; unfold maxLen; omega)
     go_wp2_with (first | (go_at_call 63; (with_reducible refine (lexicon_name.calls k x.f0 true _ T1.out).mono ?_); rintro e wb ⟨rfl, hdr⟩; have hb := hdr.below; have BXb := am (blk_below BXa.out hb); have HBb := am (below_step HBa.out hb); have HXWb := am (below_step HXWa.out hb); have hzb_0 := ((blk_cell BXb.out 0).trans rfl : _ = some (.string x.f0)); have hzb_1 := ((blk_cell BXb.out 1).trans rfl : _ = some (.string x.f1)); have hzb_2 := ((blk_cell BXb.out 2).trans rfl : _ = some (.string x.f2)); have hzb_3 := ((blk_cell BXb.out 3).trans rfl : _ = some (.string x.f3)); have hzb_4 := ((blk_cell BXb.out 4).trans rfl : _ = some (.slice A4 x.f4.length c4)); clear hb; clear hdr) | (go_at_call 63; (with_reducible refine (lexicon_name.calls k x.f1 true _ T2.out).mono ?_); rintro e wc ⟨rfl, hdr⟩; have hb := hdr.below; have BXc := am (blk_below BXb.out hb); have HBc := am (below_step HBb.out hb); have HXWc := am (below_step HXWb.out hb); have hzc_0 := ((blk_cell BXc.out 0).trans rfl : _ = some (.string x.f0)); have hzc_1 := ((blk_cell BXc.out 1).trans rfl : _ = some (.string x.f1)); have hzc_2 := ((blk_cell BXc.out 2).trans rfl : _ = some (.string x.f2)); have hzc_3 := ((blk_cell BXc.out 3).trans rfl : _ = some (.string x.f3)); have hzc_4 := ((blk_cell BXc.out 4).trans rfl : _ = some (.slice A4 x.f4.length c4)); clear hb; clear hdr) | (go_at_call 56; (with_reducible refine (alphabet_IsWord.calls A0 c0 a x.f2 true _ (Kd.C_below HR0.out HBc.out) HC0.out (Glob.below HG.out HBc.out) T4.out).mono ?_); rintro e we ⟨rfl, hb⟩; have BXe := am (blk_below BXc.out hb); have HBe := am (below_step HBc.out hb); have HXWe := am (below_step HXWc.out hb); have hze_0 := ((blk_cell BXe.out 0).trans rfl : _ = some (.string x.f0)); have hze_1 := ((blk_cell BXe.out 1).trans rfl : _ = some (.string x.f1)); have hze_2 := ((blk_cell BXe.out 2).trans rfl : _ = some (.string x.f2)); have hze_3 := ((blk_cell BXe.out 3).trans rfl : _ = some (.string x.f3)); have hze_4 := ((blk_cell BXe.out 4).trans rfl : _ = some (.slice A4 x.f4.length c4)); clear hb) | (go_at_call 47; (with_reducible refine (feature_Valid.calls k A4 c4 x.f4 true _ (Kd.C_below I4.out HXWe.out) L4.out T5.out).mono ?_); rintro e wf ⟨rfl, hb⟩; have BXf := am (blk_below BXe.out hb); have HBf := am (below_step HBe.out hb); have HXWf := am (below_step HXWe.out hb); have hzf_0 := ((blk_cell BXf.out 0).trans rfl : _ = some (.string x.f0)); have hzf_1 := ((blk_cell BXf.out 1).trans rfl : _ = some (.string x.f1)); have hzf_2 := ((blk_cell BXf.out 2).trans rfl : _ = some (.string x.f2)); have hzf_3 := ((blk_cell BXf.out 3).trans rfl : _ = some (.string x.f3)); have hzf_4 := ((blk_cell BXf.out 4).trans rfl : _ = some (.slice A4 x.f4.length c4)); clear hb; obtain ⟨D, h1f, h2f, h3f⟩ := IS.out.step HXWf.out) | (at_mapUpdate; refine wpList_mapUpdate_own _ rfl _ _ _ 128 rfl 9 4 idsLaw Tryz.underlying128 _ w2.heap.size i D rfl h1f (by have := L8.out; have := CI.out; unfold maxLen; omega) _ _ (.string x.f0.data.toList) rfl rfl hkey (.lit (.bool true)) [] (plainElem_bool Tryz.underlying4 true) ?_; intro w9 hown1 hgrow1; have n1_ := am (SeenIds.put h2f h3f hown1); have n2_ := am (pw_below_grown HBf.out (some w2.heap.size) HBf.out.size hgrow1 (fun k hk => by injection hk with hk; have := HB2.out.size; omega)); clear hown1 hgrow1 h1f h2f h3f))
     go_roundg k1
     case measure => omega
     case rel => exact ⟨i + 1, _, by first | rfl | (rw [hw1]; rfl), ⟨CI.out⟩, ⟨by have := IK.out; have := CI.out; omega⟩, HN, ⟨n1_.out.congr (fun z => by simp only [isSeen, List.any_cons]; rw [Bool.or_comm])⟩, n2_⟩
    rw [if_neg d3] at ht3
    have d3b : x.f3.toList.isEmpty = false := by
     cases e : x.f3.toList with
     | nil => exact absurd e d3
     | cons p q => rfl
    have T3 := am ht3
    clear d3 ht3
    cases t3
    ·rw [if_pos rfl] at hbad
     obtain rfl := Option.some.inj hbad
     rw [if_pos rfl] at H
     obtain rfl := Option.some.inj H
     clear H hbad
     go_wp2_with (first | (go_at_call 63; (with_reducible refine (lexicon_name.calls k x.f0 true _ T1.out).mono ?_); rintro e wb ⟨rfl, hdr⟩; have hb := hdr.below; have BXb := am (blk_below BXa.out hb); have HBb := am (below_step HBa.out hb); have HXWb := am (below_step HXWa.out hb); have hzb_0 := ((blk_cell BXb.out 0).trans rfl : _ = some (.string x.f0)); have hzb_1 := ((blk_cell BXb.out 1).trans rfl : _ = some (.string x.f1)); have hzb_2 := ((blk_cell BXb.out 2).trans rfl : _ = some (.string x.f2)); have hzb_3 := ((blk_cell BXb.out 3).trans rfl : _ = some (.string x.f3)); have hzb_4 := ((blk_cell BXb.out 4).trans rfl : _ = some (.slice A4 x.f4.length c4)); clear hb; clear hdr) | (go_at_call 63; (with_reducible refine (lexicon_name.calls k x.f1 true _ T2.out).mono ?_); rintro e wc ⟨rfl, hdr⟩; have hb := hdr.below; have BXc := am (blk_below BXb.out hb); have HBc := am (below_step HBb.out hb); have HXWc := am (below_step HXWb.out hb); have hzc_0 := ((blk_cell BXc.out 0).trans rfl : _ = some (.string x.f0)); have hzc_1 := ((blk_cell BXc.out 1).trans rfl : _ = some (.string x.f1)); have hzc_2 := ((blk_cell BXc.out 2).trans rfl : _ = some (.string x.f2)); have hzc_3 := ((blk_cell BXc.out 3).trans rfl : _ = some (.string x.f3)); have hzc_4 := ((blk_cell BXc.out 4).trans rfl : _ = some (.slice A4 x.f4.length c4)); clear hb; clear hdr) | (go_at_call 63; (with_reducible refine (lexicon_name.calls k x.f3 false _ T3.out).mono ?_); rintro e wd ⟨rfl, hdr⟩; have hb := hdr.below; have BXd := am (blk_below BXc.out hb); have HBd := am (below_step HBc.out hb); have HXWd := am (below_step HXWc.out hb); have hzd_0 := ((blk_cell BXd.out 0).trans rfl : _ = some (.string x.f0)); have hzd_1 := ((blk_cell BXd.out 1).trans rfl : _ = some (.string x.f1)); have hzd_2 := ((blk_cell BXd.out 2).trans rfl : _ = some (.string x.f2)); have hzd_3 := ((blk_cell BXd.out 3).trans rfl : _ = some (.string x.f3)); have hzd_4 := ((blk_cell BXd.out 4).trans rfl : _ = some (.slice A4 x.f4.length c4)); clear hb; clear hdr))
     go_ret
     exact ⟨rfl, HBd.out⟩
    rw [if_neg (by decide)] at hbad
    obtain ⟨t4, ht4, hbad⟩ := Option.bind_eq_some_iff.1 hbad
    have T4 := am ht4
    clear ht4
    cases t4
    ·rw [if_pos rfl] at hbad
     obtain rfl := Option.some.inj hbad
     rw [if_pos rfl] at H
     obtain rfl := Option.some.inj H
     clear H hbad
     go_wp2_with (first | (go_at_call 63; (with_reducible refine (lexicon_name.calls k x.f0 true _ T1.out).mono ?_); rintro e wb ⟨rfl, hdr⟩; have hb := hdr.below; have BXb := am (blk_below BXa.out hb); have HBb := am (below_step HBa.out hb); have HXWb := am (below_step HXWa.out hb); have hzb_0 := ((blk_cell BXb.out 0).trans rfl : _ = some (.string x.f0)); have hzb_1 := ((blk_cell BXb.out 1).trans rfl : _ = some (.string x.f1)); have hzb_2 := ((blk_cell BXb.out 2).trans rfl : _ = some (.string x.f2)); have hzb_3 := ((blk_cell BXb.out 3).trans rfl : _ = some (.string x.f3)); have hzb_4 := ((blk_cell BXb.out 4).trans rfl : _ = some (.slice A4 x.f4.length c4)); clear hb; clear hdr) | (go_at_call 63; (with_reducible refine (lexicon_name.calls k x.f1 true _ T2.out).mono ?_); rintro e wc ⟨rfl, hdr⟩; have hb := hdr.below; have BXc := am (blk_below BXb.out hb); have HBc := am (below_step HBb.out hb); have HXWc := am (below_step HXWb.out hb); have hzc_0 := ((blk_cell BXc.out 0).trans rfl : _ = some (.string x.f0)); have hzc_1 := ((blk_cell BXc.out 1).trans rfl : _ = some (.string x.f1)); have hzc_2 := ((blk_cell BXc.out 2).trans rfl : _ = some (.string x.f2)); have hzc_3 := ((blk_cell BXc.out 3).trans rfl : _ = some (.string x.f3)); have hzc_4 := ((blk_cell BXc.out 4).trans rfl : _ = some (.slice A4 x.f4.length c4)); clear hb; clear hdr) | (go_at_call 63; (with_reducible refine (lexicon_name.calls k x.f3 true _ T3.out).mono ?_); rintro e wd ⟨rfl, hdr⟩; have hb := hdr.below; have BXd := am (blk_below BXc.out hb); have HBd := am (below_step HBc.out hb); have HXWd := am (below_step HXWc.out hb); have hzd_0 := ((blk_cell BXd.out 0).trans rfl : _ = some (.string x.f0)); have hzd_1 := ((blk_cell BXd.out 1).trans rfl : _ = some (.string x.f1)); have hzd_2 := ((blk_cell BXd.out 2).trans rfl : _ = some (.string x.f2)); have hzd_3 := ((blk_cell BXd.out 3).trans rfl : _ = some (.string x.f3)); have hzd_4 := ((blk_cell BXd.out 4).trans rfl : _ = some (.slice A4 x.f4.length c4)); clear hb; clear hdr) | (go_at_call 56; (with_reducible refine (alphabet_IsWord.calls A0 c0 a x.f2 false _ (Kd.C_below HR0.out HBd.out) HC0.out (Glob.below HG.out HBd.out) T4.out).mono ?_); rintro e we ⟨rfl, hb⟩; have BXe := am (blk_below BXd.out hb); have HBe := am (below_step HBd.out hb); have HXWe := am (below_step HXWd.out hb); have hze_0 := ((blk_cell BXe.out 0).trans rfl : _ = some (.string x.f0)); have hze_1 := ((blk_cell BXe.out 1).trans rfl : _ = some (.string x.f1)); have hze_2 := ((blk_cell BXe.out 2).trans rfl : _ = some (.string x.f2)); have hze_3 := ((blk_cell BXe.out 3).trans rfl : _ = some (.string x.f3)); have hze_4 := ((blk_cell BXe.out 4).trans rfl : _ = some (.slice A4 x.f4.length c4)); clear hb))
     go_ret
     exact ⟨rfl, HBe.out⟩
    rw [if_neg (by decide)] at hbad
    obtain ⟨t5, ht5, hbad⟩ := Option.bind_eq_some_iff.1 hbad
    have T5 := am ht5
    clear ht5
    cases t5
    ·obtain rfl : true = bad := Option.some.inj hbad
     rw [if_pos rfl] at H
     obtain rfl := Option.some.inj H
     clear H hbad
     go_wp2_with (first | (go_at_call 63; (with_reducible refine (lexicon_name.calls k x.f0 true _ T1.out).mono ?_); rintro e wb ⟨rfl, hdr⟩; have hb := hdr.below; have BXb := am (blk_below BXa.out hb); have HBb := am (below_step HBa.out hb); have HXWb := am (below_step HXWa.out hb); have hzb_0 := ((blk_cell BXb.out 0).trans rfl : _ = some (.string x.f0)); have hzb_1 := ((blk_cell BXb.out 1).trans rfl : _ = some (.string x.f1)); have hzb_2 := ((blk_cell BXb.out 2).trans rfl : _ = some (.string x.f2)); have hzb_3 := ((blk_cell BXb.out 3).trans rfl : _ = some (.string x.f3)); have hzb_4 := ((blk_cell BXb.out 4).trans rfl : _ = some (.slice A4 x.f4.length c4)); clear hb; clear hdr) | (go_at_call 63; (with_reducible refine (lexicon_name.calls k x.f1 true _ T2.out).mono ?_); rintro e wc ⟨rfl, hdr⟩; have hb := hdr.below; have BXc := am (blk_below BXb.out hb); have HBc := am (below_step HBb.out hb); have HXWc := am (below_step HXWb.out hb); have hzc_0 := ((blk_cell BXc.out 0).trans rfl : _ = some (.string x.f0)); have hzc_1 := ((blk_cell BXc.out 1).trans rfl : _ = some (.string x.f1)); have hzc_2 := ((blk_cell BXc.out 2).trans rfl : _ = some (.string x.f2)); have hzc_3 := ((blk_cell BXc.out 3).trans rfl : _ = some (.string x.f3)); have hzc_4 := ((blk_cell BXc.out 4).trans rfl : _ = some (.slice A4 x.f4.length c4)); clear hb; clear hdr) | (go_at_call 63; (with_reducible refine (lexicon_name.calls k x.f3 true _ T3.out).mono ?_); rintro e wd ⟨rfl, hdr⟩; have hb := hdr.below; have BXd := am (blk_below BXc.out hb); have HBd := am (below_step HBc.out hb); have HXWd := am (below_step HXWc.out hb); have hzd_0 := ((blk_cell BXd.out 0).trans rfl : _ = some (.string x.f0)); have hzd_1 := ((blk_cell BXd.out 1).trans rfl : _ = some (.string x.f1)); have hzd_2 := ((blk_cell BXd.out 2).trans rfl : _ = some (.string x.f2)); have hzd_3 := ((blk_cell BXd.out 3).trans rfl : _ = some (.string x.f3)); have hzd_4 := ((blk_cell BXd.out 4).trans rfl : _ = some (.slice A4 x.f4.length c4)); clear hb; clear hdr) | (go_at_call 56; (with_reducible refine (alphabet_IsWord.calls A0 c0 a x.f2 true _ (Kd.C_below HR0.out HBd.out) HC0.out (Glob.below HG.out HBd.out) T4.out).mono ?_); rintro e we ⟨rfl, hb⟩; have BXe := am (blk_below BXd.out hb); have HBe := am (below_step HBd.out hb); have HXWe := am (below_step HXWd.out hb); have hze_0 := ((blk_cell BXe.out 0).trans rfl : _ = some (.string x.f0)); have hze_1 := ((blk_cell BXe.out 1).trans rfl : _ = some (.string x.f1)); have hze_2 := ((blk_cell BXe.out 2).trans rfl : _ = some (.string x.f2)); have hze_3 := ((blk_cell BXe.out 3).trans rfl : _ = some (.string x.f3)); have hze_4 := ((blk_cell BXe.out 4).trans rfl : _ = some (.slice A4 x.f4.length c4)); clear hb) | (go_at_call 47; (with_reducible refine (feature_Valid.calls k A4 c4 x.f4 false _ (Kd.C_below I4.out HXWe.out) L4.out T5.out).mono ?_); rintro e wf ⟨rfl, hb⟩; have BXf := am (blk_below BXe.out hb); have HBf := am (below_step HBe.out hb); have HXWf := am (below_step HXWe.out hb); have hzf_0 := ((blk_cell BXf.out 0).trans rfl : _ = some (.string x.f0)); have hzf_1 := ((blk_cell BXf.out 1).trans rfl : _ = some (.string x.f1)); have hzf_2 := ((blk_cell BXf.out 2).trans rfl : _ = some (.string x.f2)); have hzf_3 := ((blk_cell BXf.out 3).trans rfl : _ = some (.string x.f3)); have hzf_4 := ((blk_cell BXf.out 4).trans rfl : _ = some (.slice A4 x.f4.length c4)); clear hb))
     go_ret
     exact ⟨rfl, HBf.out⟩
    obtain rfl : false = bad := Option.some.inj hbad
    rw [if_neg (by decide)] at H
    have HN := am H
    clear H hbad
    have hkey : keyOf Tryz.prog 9 (.string x.f0) = some (.string x.f0.data.toList) := WideMaps.keyOf_string_mk Tryz.underlying9 (by have := C6.out; unfold maxLen; omega)
    go_wp2_with (first | (go_at_call 63; (with_reducible refine (lexicon_name.calls k x.f0 true _ T1.out).mono ?_); rintro e wb ⟨rfl, hdr⟩; have hb := hdr.below; have BXb := am (blk_below BXa.out hb); have HBb := am (below_step HBa.out hb); have HXWb := am (below_step HXWa.out hb); have hzb_0 := ((blk_cell BXb.out 0).trans rfl : _ = some (.string x.f0)); have hzb_1 := ((blk_cell BXb.out 1).trans rfl : _ = some (.string x.f1)); have hzb_2 := ((blk_cell BXb.out 2).trans rfl : _ = some (.string x.f2)); have hzb_3 := ((blk_cell BXb.out 3).trans rfl : _ = some (.string x.f3)); have hzb_4 := ((blk_cell BXb.out 4).trans rfl : _ = some (.slice A4 x.f4.length c4)); clear hb; clear hdr) | (go_at_call 63; (with_reducible refine (lexicon_name.calls k x.f1 true _ T2.out).mono ?_); rintro e wc ⟨rfl, hdr⟩; have hb := hdr.below; have BXc := am (blk_below BXb.out hb); have HBc := am (below_step HBb.out hb); have HXWc := am (below_step HXWb.out hb); have hzc_0 := ((blk_cell BXc.out 0).trans rfl : _ = some (.string x.f0)); have hzc_1 := ((blk_cell BXc.out 1).trans rfl : _ = some (.string x.f1)); have hzc_2 := ((blk_cell BXc.out 2).trans rfl : _ = some (.string x.f2)); have hzc_3 := ((blk_cell BXc.out 3).trans rfl : _ = some (.string x.f3)); have hzc_4 := ((blk_cell BXc.out 4).trans rfl : _ = some (.slice A4 x.f4.length c4)); clear hb; clear hdr) | (go_at_call 63; (with_reducible refine (lexicon_name.calls k x.f3 true _ T3.out).mono ?_); rintro e wd ⟨rfl, hdr⟩; have hb := hdr.below; have BXd := am (blk_below BXc.out hb); have HBd := am (below_step HBc.out hb); have HXWd := am (below_step HXWc.out hb); have hzd_0 := ((blk_cell BXd.out 0).trans rfl : _ = some (.string x.f0)); have hzd_1 := ((blk_cell BXd.out 1).trans rfl : _ = some (.string x.f1)); have hzd_2 := ((blk_cell BXd.out 2).trans rfl : _ = some (.string x.f2)); have hzd_3 := ((blk_cell BXd.out 3).trans rfl : _ = some (.string x.f3)); have hzd_4 := ((blk_cell BXd.out 4).trans rfl : _ = some (.slice A4 x.f4.length c4)); clear hb; clear hdr) | (go_at_call 56; (with_reducible refine (alphabet_IsWord.calls A0 c0 a x.f2 true _ (Kd.C_below HR0.out HBd.out) HC0.out (Glob.below HG.out HBd.out) T4.out).mono ?_); rintro e we ⟨rfl, hb⟩; have BXe := am (blk_below BXd.out hb); have HBe := am (below_step HBd.out hb); have HXWe := am (below_step HXWd.out hb); have hze_0 := ((blk_cell BXe.out 0).trans rfl : _ = some (.string x.f0)); have hze_1 := ((blk_cell BXe.out 1).trans rfl : _ = some (.string x.f1)); have hze_2 := ((blk_cell BXe.out 2).trans rfl : _ = some (.string x.f2)); have hze_3 := ((blk_cell BXe.out 3).trans rfl : _ = some (.string x.f3)); have hze_4 := ((blk_cell BXe.out 4).trans rfl : _ = some (.slice A4 x.f4.length c4)); clear hb) | (go_at_call 47; (with_reducible refine (feature_Valid.calls k A4 c4 x.f4 true _ (Kd.C_below I4.out HXWe.out) L4.out T5.out).mono ?_); rintro e wf ⟨rfl, hb⟩; have BXf := am (blk_below BXe.out hb); have HBf := am (below_step HBe.out hb); have HXWf := am (below_step HXWe.out hb); have hzf_0 := ((blk_cell BXf.out 0).trans rfl : _ = some (.string x.f0)); have hzf_1 := ((blk_cell BXf.out 1).trans rfl : _ = some (.string x.f1)); have hzf_2 := ((blk_cell BXf.out 2).trans rfl : _ = some (.string x.f2)); have hzf_3 := ((blk_cell BXf.out 3).trans rfl : _ = some (.string x.f3)); have hzf_4 := ((blk_cell BXf.out 4).trans rfl : _ = some (.slice A4 x.f4.length c4)); clear hb; obtain ⟨D, h1f, h2f, h3f⟩ := IS.out.step HXWf.out) | (at_mapUpdate; refine wpList_mapUpdate_own _ rfl _ _ _ 128 rfl 9 4 idsLaw Tryz.underlying128 _ w2.heap.size i D rfl h1f (by have := L8.out; have := CI.out; unfold maxLen; omega) _ _ (.string x.f0.data.toList) rfl rfl hkey (.lit (.bool true)) [] (plainElem_bool Tryz.underlying4 true) ?_; intro w9 hown1 hgrow1; have n1_ := am (SeenIds.put h2f h3f hown1); have n2_ := am (pw_below_grown HBf.out (some w2.heap.size) HBf.out.size hgrow1 (fun k hk => by injection hk with hk; have := HB2.out.size; omega)); clear hown1 hgrow1 h1f h2f h3f))
    go_roundg k1
    case measure => omega
    case rel => exact ⟨i + 1, _, by first | rfl | (rw [hw1]; rfl), ⟨CI.out⟩, ⟨by have := IK.out; have := CI.out; omega⟩, HN, ⟨n1_.out.congr (fun z => by simp only [isSeen, List.any_cons]; rw [Bool.or_comm])⟩, n2_⟩
   rw [if_neg c6] at H
   exact absurd H (by simp)
  obtain rfl : i = l.length := by have := IM.out; omega
  have q2b : decide ((l.length : Int) < (l.length : Int)) = false := decide_eq_false (by omega)
  have H := IA.out
  rw [List.drop_eq_nil_of_le (Nat.le_refl _), lexGo] at H
  obtain rfl := Option.some.inj H
  clear c5 H IA
  go_wp2
  go_ret
  exact ⟨rfl, IB.out⟩
theorem morphology_words_parts.calls (k : Nat) (A0_0 : Option Addr) (c0_0 : Nat) (l0_0 : List (S48)) (A0_1 : Option Addr) (c0_1 : Nat) (l0_1 : List (S89)) (A0_2 : Option Addr) (c0_2 : Nat) (l0_2 : List (S38)) (A0_3 : Option Addr) (c0_3 : Nat) (l0_3 : List (S34)) (r : Bool) (w : World) (hr0_0 : Kd.C k48 w A0_0 l0_0.length l0_0) (hc0_0 : l0_0.length ≤ c0_0) (hr0_1 : Kd.C k89 w A0_1 l0_1.length l0_1) (hc0_1 : l0_1.length ≤ c0_1) (hr0_2 : Kd.C k38 w A0_2 l0_2.length l0_2) (hc0_2 : l0_2.length ≤ c0_2) (hr0_3 : Kd.C k34 w A0_3 l0_3.length l0_3) (hc0_3 : l0_3.length ≤ c0_3) (hG : Glob w) (h : morphology_words_parts.f k l0_0 l0_1 l0_2 l0_3 = some r) :
  Calls Tryz.prog 14 #[.agg #[.slice A0_0 l0_0.length c0_0, .slice A0_1 l0_1.length c0_1, .slice A0_2 l0_2.length c0_2, .slice A0_3 l0_3.length c0_3]] w fun e w' => e = .returned (.bool r) ∧ Below w.heap.size w w' := by
 have HG := am hG
 clear hG
 have hu58 := Tryz.underlying58
 have hu89 := Tryz.underlying89
 have hu38 := Tryz.underlying38
 have HR0_0 := am hr0_0
 have HC0_0 := am hc0_0
 clear hr0_0 hc0_0
 have HR0_1 := am hr0_1
 have HC0_1 := am hc0_1
 clear hr0_1 hc0_1
 have HR0_2 := am hr0_2
 have HC0_2 := am hc0_2
 clear hr0_2 hc0_2
 have HR0_3 := am hr0_3
 have HC0_3 := am hc0_3
 clear hr0_3 hc0_3
 have HB := am (Below.refl w.heap.size w)
 have H : ((alphabet_Valid.f k l0_0).bind fun t342 => (if t342 = true then (if (l0_1.length : Int) > 64 then (morphology_words_parts.j0 k true l0_0 l0_1 l0_2 l0_3) else (morphology_words_parts.j0 k (decide ((l0_2.length : Int) > 32)) l0_0 l0_1 l0_2 l0_3)) else (morphology_words_parts.j0 k true l0_0 l0_1 l0_2 l0_3))) = some r := h
 clear h
 have HC2 := am H
 clear H
 go_enter Tryz.func14, Tryz.ntmps14
 go_upto_region 1 with (first | ((with_reducible refine gate_dst (N := 1) rfl ?_); (try (refine gate_guard (by rfl) ?_; dsimp only)); refine bx 1 #[.slice A0_0 l0_0.length c0_0, .slice A0_1 l0_1.length c0_1, .slice A0_2 l0_2.length c0_2, .slice A0_3 l0_3.length c0_3] 58 ?_; intro gb341 hg w3 hbox hb; have BK341 := am hbox; have GE341 := sz hg; replace HB := bs hb; clear hb hbox hg))
 (try simp only [Act.put, List.setIfInBounds_toArray, List.set_cons_zero, List.set_cons_succ])
 go_cut [25] (fun v25 wc => ∃ (kq : Nat) (x25_1 : Bool), v25 = .bool x25_1 ∧ Aside0 (morphology_words_parts.j0 kq x25_1 l0_0 l0_1 l0_2 l0_3 = some r) ∧ Aside0 (kq ≤ k) ∧ Aside0 (wc.heap[gb341]? = some (.cells #[(.slice A0_0 l0_0.length c0_0), (.slice A0_1 l0_1.length c0_1), (.slice A0_2 l0_2.length c0_2), (.slice A0_3 l0_3.length c0_3)] 58 (0, 0))) ∧ Aside0 (Below w.heap.size w wc))
 case first =>
  have H := HC2.out
  clear HC2
  replace H := Option.bind_eq_some_iff.mp H
  obtain ⟨t342, A40, H⟩ := H
  (try dsimp only at H)
  have A4 := am A40
  clear A40
  by_cases c5 : t342 = true
  ·subst c5
   rw [if_pos rfl] at H
   by_cases c6 : (l0_1.length : Int) > 64
   ·rw [if_pos c6] at H
    have c6b0 : decide (64 < (l0_1.length : Int)) = true := decide_eq_true c6
    have c6b1 : decide (64 < l0_1.length) = true := decide_eq_true (by omega)
    clear c6
    (first | rw [c6b0] | (simp only [i64_w, i32_w]; rw [c6b0]) | skip)
    have H' := am H
    clear H
    obtain ⟨zaa, zab, zac, zad, zae, zaf, zag, zah⟩ := bc4 BK341
    go_wp2_with (first | ((with_reducible refine gate_callee (f := 31) rfl ?_); refine gL (some 10) Tryz.func31 #[.slice A0_0 l0_0.length c0_0] ?_; (with_reducible refine (alphabet_Valid.calls k _ _ l0_0 true _ (cq HR0_0) HC0_0.out A4.out).mono ?_); rintro e w8 ⟨rfl, hb⟩; refine ⟨_, rfl, ?_⟩; replace BK341 := bk BK341 hb; replace HB := bs hb; (try clear hb); obtain ⟨zai, zaj, zak, zal, zam, zan, zao, zap⟩ := bc4 BK341))
    go_meet
    case rel => exact ⟨_, (true), rq, H', ⟨by first | omega | exact Nat.le_refl _⟩, ⟨bd BK341⟩, ⟨bq⟩⟩
   rw [if_neg c6] at H
   have c6b0 : decide (64 < (l0_1.length : Int)) = false := decide_eq_false c6
   have c6b1 : decide (64 < l0_1.length) = false := decide_eq_false (by omega)
   clear c6
   (first | rw [c6b0] | (simp only [i64_w, i32_w]; rw [c6b0]) | skip)
   have H' := am H
   clear H
   obtain ⟨zaq, zar, zas, zat, zau, zav, zaw, zax⟩ := bc4 BK341
   go_wp2_with (first | ((with_reducible refine gate_callee (f := 31) rfl ?_); refine gL (some 10) Tryz.func31 #[.slice A0_0 l0_0.length c0_0] ?_; (with_reducible refine (alphabet_Valid.calls k _ _ l0_0 true _ (cq HR0_0) HC0_0.out A4.out).mono ?_); rintro e w11 ⟨rfl, hb⟩; refine ⟨_, rfl, ?_⟩; replace BK341 := bk BK341 hb; replace HB := bs hb; (try clear hb); obtain ⟨zay, zaz, zba, zbb, zbc, zbd, zbe, zbf⟩ := bc4 BK341))
   go_meet
   case rel => exact ⟨_, (decide ((l0_2.length : Int) > 32)), rq, H', ⟨by first | omega | exact Nat.le_refl _⟩, ⟨bd BK341⟩, ⟨bq⟩⟩
  replace c5 := Bool.eq_false_iff.mpr c5
  subst c5
  rw [if_neg nf] at H
  have H' := am H
  clear H
  obtain ⟨zbg, zbh, zbi, zbj, zbk, zbl, zbm, zbn⟩ := bc4 BK341
  go_wp2_with (first | ((with_reducible refine gate_callee (f := 31) rfl ?_); refine gL (some 10) Tryz.func31 #[.slice A0_0 l0_0.length c0_0] ?_; (with_reducible refine (alphabet_Valid.calls k _ _ l0_0 false _ (cq HR0_0) HC0_0.out A4.out).mono ?_); rintro e w14 ⟨rfl, hb⟩; refine ⟨_, rfl, ?_⟩; replace BK341 := bk BK341 hb; replace HB := bs hb; (try clear hb)))
  go_meet
  case rel => exact ⟨_, (true), rq, H', ⟨by first | omega | exact Nat.le_refl _⟩, ⟨bd BK341⟩, ⟨bq⟩⟩
 case rest =>
  clear HC2
  obtain ⟨kq, x25_1, rfl, HA, HJ1, BK341, HB⟩ := hcut
  cases kq with
  | zero => exact absurd HA.out (by simp [morphology_words_parts.j0])
  | succ kj1 =>
   have H := HA.out
   clear HA
   simp only [morphology_words_parts.j0] at H
   by_cases c15 : x25_1 = true
   ·subst c15
    rw [if_pos rfl] at H
    obtain rfl := Option.some.inj H
    go_wp2
    go_ret
    exact ⟨eq', bq⟩
   replace c15 := Bool.eq_false_iff.mpr c15
   subst c15
   rw [if_neg nf] at H
   have H' := am H
   clear H
   obtain ⟨zbo, zbp, zbq, zbr, zbs, zbt, zbu, zbv⟩ := bc4 BK341
   go_wp2
   go_loopg [30] kj1 (fun kq v30 w' => ∃ (x30_2 : Int), v30 = .int .i64 x30_2 ∧ Aside0 (morphology_words_parts.l0 kq l0_1 (l0_1.length : Int) x30_2 l0_0 l0_1 l0_2 l0_3 = some r) ∧ Aside0 (kq ≤ kj1) ∧ Aside0 (w'.heap[gb341]? = some (.cells #[(.slice A0_0 l0_0.length c0_0), (.slice A0_1 l0_1.length c0_1), (.slice A0_2 l0_2.length c0_2), (.slice A0_3 l0_3.length c0_3)] 58 (0, 0))) ∧ Aside0 (Below w.heap.size w w'))
   case atStart => exact ⟨(0), rq, H', ⟨Nat.le_refl _⟩, ⟨bd BK341⟩, ⟨bq⟩⟩
   case round =>
    clear H'
    clear zbo zbp zbq zbr zbs zbt zbu zbv
    obtain ⟨x30_2, rfl, HA, HK2, BK341, HB⟩ := hrel
    cases gk with
    | zero => exact absurd HA.out (by simp [morphology_words_parts.l0])
    | succ k2 =>
     have H := HA.out
     clear HA
     simp only [morphology_words_parts.l0] at H
     by_cases c17 : x30_2 < (l0_1.length : Int)
     ·rw [if_pos c17] at H
      have c17b0 : decide (x30_2 < (l0_1.length : Int)) = true := decide_eq_true c17
      clear c17
      by_cases c18 : 0 ≤ x30_2
      ·rw [if_pos c18] at H
       have c18b0 : decide (0 ≤ x30_2) = true := decide_eq_true c18
       clear c18
       by_cases c19 : x30_2 < (l0_1.length : Int)
       ·rw [if_pos c19] at H
        have c19b0 : decide (x30_2 < (l0_1.length : Int)) = true := decide_eq_true c19
        clear c19
        replace H := Option.bind_eq_some_iff.mp H
        obtain ⟨t345, A200, H⟩ := H
        (try dsimp only at H)
        have A20 := am A200
        clear A200
        by_cases c21 : t345 = true
        ·subst c21
         rw [if_pos rfl] at H
         have H' := am H
         clear H
         have p343 : 0 ≤ (x30_2 : Int) := oq
         have q343 : x30_2 < (l0_1.length : Int) := oq
         obtain ⟨ad343, A343_2, c343_2, A343_3, c343_3, e343, hx343_0, hx343_1, hx343_2, hx343_3, hx343_4, hx343_5, hl343_2, hi343_2, hl343_3, hi343_3⟩ := at_T89 HR0_1.out x30_2 p343 q343
         cases e343
         replace hx343_0 := cw hx343_0
         replace hx343_1 := cw hx343_1
         replace hx343_2 := cw hx343_2
         replace hx343_3 := cw hx343_3
         replace hx343_4 := cw hx343_4
         replace hx343_5 := cw hx343_5
         have HR343_2 := am hi343_2
         have HC343_2 := am hl343_2
         clear hi343_2 hl343_2
         have HR343_3 := am hi343_3
         have HC343_3 := am hl343_3
         clear hi343_3 hl343_3
         replace p343 := eq_true p343
         replace q343 := eq_true q343
         go_wp2_with (first | ((with_reducible refine gate_dst (N := 4) rfl ?_); (try (refine gate_guard (by rfl) ?_; dsimp only)); refine bx 4 #[.int .i32 0, .string (⟨#[]⟩ : ByteArray), .slice none 0 0, .slice none 0 0, .bool false, .bool false] 89 ?_; intro gb344 hg w22 hbox hb; have BK344 := am hbox; have GE344 := sz hg; have NB341_344 := nl hg BK341; have NB344_341 := ng hg BK341; replace BK341 := bk BK341 hb; replace HB := bs hb; clear hb hbox hg; have hnb23 := NB344_341.out; have hnc23 := NB341_344.out; obtain ⟨zbw, zbx, zby, zbz, zca, zcb, zcc, zcd, zce, zcf, zcg, zch⟩ := bc6 BK344; obtain ⟨zci, zcj, zck, zcl, zcm, zcn, zco, zcp⟩ := bc4 BK341) | ((with_reducible refine gate_callee (f := 32) rfl ?_); refine gL (some 38) Tryz.func32 #[.slice A0_0 l0_0.length c0_0, .agg #[.int .i32 ((rd_T89 l0_1 x30_2).f0), .string ((rd_T89 l0_1 x30_2).f1), .slice A343_2 ((rd_T89 l0_1 x30_2).f2).length c343_2, .slice A343_3 ((rd_T89 l0_1 x30_2).f3).length c343_3, .bool ((rd_T89 l0_1 x30_2).f4), .bool ((rd_T89 l0_1 x30_2).f5)]] ?_; (with_reducible refine (rewrite_Valid.calls k2 _ _ l0_0 ((rd_T89 l0_1 x30_2).f0) ((rd_T89 l0_1 x30_2).f1) _ _ ((rd_T89 l0_1 x30_2).f2) _ _ ((rd_T89 l0_1 x30_2).f3) ((rd_T89 l0_1 x30_2).f4) ((rd_T89 l0_1 x30_2).f5) true _ ?side1 ?side2 ?side3 ?side4 ?side5 ?side6 (Glob.below HG.out bq) A20.out).mono ?_); (case side1 => exact Kd.C_below HR0_0.out bq); (case side2 => exact HC0_0.out); (case side3 => exact Kd.C_below HR343_2.out bq); (case side4 => exact HC343_2.out); (case side5 => exact Kd.C_below HR343_3.out bq); (case side6 => exact HC343_3.out); rintro e w26 ⟨rfl, hb⟩; refine ⟨_, rfl, ?_⟩; replace BK341 := am (blk_below (g := gb341) (o := .cells #[.slice A0_0 l0_0.length c0_0, .slice (some ad343) l0_1.length c0_1, .slice A0_2 l0_2.length c0_2, .slice A0_3 l0_3.length c0_3] 58 (0, 0)) (bf BK341) hb); replace BK344 := am (blk_below (g := gb344) (o := .cells #[.int .i32 ((rd_T89 l0_1 x30_2).f0), .string ((rd_T89 l0_1 x30_2).f1), .slice A343_2 ((rd_T89 l0_1 x30_2).f2).length c343_2, .slice A343_3 ((rd_T89 l0_1 x30_2).f3).length c343_3, .bool ((rd_T89 l0_1 x30_2).f4), .bool ((rd_T89 l0_1 x30_2).f5)] 89 (0, 0)) (bp BK344) hb); replace HB := bs hb; (try clear hb)))
         go_roundg k2
         case measure => have := HJ1.out; have := HK2.out; omega
         case rel => exact ⟨(wrap64 (x30_2 + 1)), rq, H', ⟨by have := HJ1.out; have := HK2.out; omega⟩, ⟨bd BK341⟩, ⟨bq⟩⟩
        replace c21 := Bool.eq_false_iff.mpr c21
        subst c21
        rw [if_neg nf] at H
        obtain rfl := Option.some.inj H
        have p343 : 0 ≤ (x30_2 : Int) := oq
        have q343 : x30_2 < (l0_1.length : Int) := oq
        obtain ⟨ad343, A343_2, c343_2, A343_3, c343_3, e343, hx343_0, hx343_1, hx343_2, hx343_3, hx343_4, hx343_5, hl343_2, hi343_2, hl343_3, hi343_3⟩ := at_T89 HR0_1.out x30_2 p343 q343
        cases e343
        replace hx343_0 := cw hx343_0
        replace hx343_1 := cw hx343_1
        replace hx343_2 := cw hx343_2
        replace hx343_3 := cw hx343_3
        replace hx343_4 := cw hx343_4
        replace hx343_5 := cw hx343_5
        have HR343_2 := am hi343_2
        have HC343_2 := am hl343_2
        clear hi343_2 hl343_2
        have HR343_3 := am hi343_3
        have HC343_3 := am hl343_3
        clear hi343_3 hl343_3
        replace p343 := eq_true p343
        replace q343 := eq_true q343
        go_wp2_with (first | ((with_reducible refine gate_dst (N := 4) rfl ?_); (try (refine gate_guard (by rfl) ?_; dsimp only)); refine bx 4 #[.int .i32 0, .string (⟨#[]⟩ : ByteArray), .slice none 0 0, .slice none 0 0, .bool false, .bool false] 89 ?_; intro gb344 hg w27 hbox hb; have BK344 := am hbox; have GE344 := sz hg; have NB341_344 := nl hg BK341; have NB344_341 := ng hg BK341; replace BK341 := bk BK341 hb; replace HB := bs hb; clear hb hbox hg; have hnb28 := NB344_341.out; have hnc28 := NB341_344.out; obtain ⟨zcq, zcr, zcs, zct, zcu, zcv, zcw, zcx, zcy, zcz, zda, zdb⟩ := bc6 BK344; obtain ⟨zdc, zdd, zde, zdf, zdg, zdh, zdi, zdj⟩ := bc4 BK341) | ((with_reducible refine gate_callee (f := 32) rfl ?_); refine gL (some 38) Tryz.func32 #[.slice A0_0 l0_0.length c0_0, .agg #[.int .i32 ((rd_T89 l0_1 x30_2).f0), .string ((rd_T89 l0_1 x30_2).f1), .slice A343_2 ((rd_T89 l0_1 x30_2).f2).length c343_2, .slice A343_3 ((rd_T89 l0_1 x30_2).f3).length c343_3, .bool ((rd_T89 l0_1 x30_2).f4), .bool ((rd_T89 l0_1 x30_2).f5)]] ?_; (with_reducible refine (rewrite_Valid.calls k2 _ _ l0_0 ((rd_T89 l0_1 x30_2).f0) ((rd_T89 l0_1 x30_2).f1) _ _ ((rd_T89 l0_1 x30_2).f2) _ _ ((rd_T89 l0_1 x30_2).f3) ((rd_T89 l0_1 x30_2).f4) ((rd_T89 l0_1 x30_2).f5) false _ ?side1 ?side2 ?side3 ?side4 ?side5 ?side6 (Glob.below HG.out bq) A20.out).mono ?_); (case side1 => exact Kd.C_below HR0_0.out bq); (case side2 => exact HC0_0.out); (case side3 => exact Kd.C_below HR343_2.out bq); (case side4 => exact HC343_2.out); (case side5 => exact Kd.C_below HR343_3.out bq); (case side6 => exact HC343_3.out); rintro e w31 ⟨rfl, hb⟩; refine ⟨_, rfl, ?_⟩; replace BK341 := am (blk_below (g := gb341) (o := .cells #[.slice A0_0 l0_0.length c0_0, .slice (some ad343) l0_1.length c0_1, .slice A0_2 l0_2.length c0_2, .slice A0_3 l0_3.length c0_3] 58 (0, 0)) (bf BK341) hb); replace BK344 := am (blk_below (g := gb344) (o := .cells #[.int .i32 ((rd_T89 l0_1 x30_2).f0), .string ((rd_T89 l0_1 x30_2).f1), .slice A343_2 ((rd_T89 l0_1 x30_2).f2).length c343_2, .slice A343_3 ((rd_T89 l0_1 x30_2).f3).length c343_3, .bool ((rd_T89 l0_1 x30_2).f4), .bool ((rd_T89 l0_1 x30_2).f5)] 89 (0, 0)) (bp BK344) hb); replace HB := bs hb; (try clear hb)))
        go_ret
        exact ⟨eq', bq⟩
       rw [if_neg c19] at H
       exact absurd H (by simp)
      rw [if_neg c18] at H
      exact absurd H (by simp)
     rw [if_neg c17] at H
     have c17b0 : decide (x30_2 < (l0_1.length : Int)) = false := decide_eq_false c17
     clear c17
     have H' := am H
     clear H
     obtain ⟨zdk, zdl, zdm, zdn, zdo, zdp, zdq, zdr⟩ := bc4 BK341
     go_wp2
     go_loopg [45] k2 (fun kq v45 w' => ∃ (x45_3 : Int), v45 = .int .i64 x45_3 ∧ Aside0 (morphology_words_parts.l1 kq l0_2 (l0_2.length : Int) x45_3 l0_0 l0_1 l0_2 l0_3 = some r) ∧ Aside0 (kq ≤ k2) ∧ Aside0 (w'.heap[gb341]? = some (.cells #[(.slice A0_0 l0_0.length c0_0), (.slice A0_1 l0_1.length c0_1), (.slice A0_2 l0_2.length c0_2), (.slice A0_3 l0_3.length c0_3)] 58 (0, 0))) ∧ Aside0 (Below w.heap.size w w'))
     case atStart => exact ⟨(0), rq, H', ⟨Nat.le_refl _⟩, ⟨bd BK341⟩, ⟨bq⟩⟩
     case round =>
      clear H'
      clear c17b0 zdk zdl zdm zdn zdo zdp zdq zdr
      obtain ⟨x45_3, rfl, HA, HK3, BK341, HB⟩ := hrel
      cases gk with
      | zero => exact absurd HA.out (by simp [morphology_words_parts.l1])
      | succ k3 =>
       have H := HA.out
       clear HA
       simp only [morphology_words_parts.l1] at H
       by_cases c33 : x45_3 < (l0_2.length : Int)
       ·rw [if_pos c33] at H
        have c33b0 : decide (x45_3 < (l0_2.length : Int)) = true := decide_eq_true c33
        clear c33
        by_cases c34 : 0 ≤ x45_3
        ·rw [if_pos c34] at H
         have c34b0 : decide (0 ≤ x45_3) = true := decide_eq_true c34
         clear c34
         by_cases c35 : x45_3 < (l0_2.length : Int)
         ·rw [if_pos c35] at H
          have c35b0 : decide (x45_3 < (l0_2.length : Int)) = true := decide_eq_true c35
          clear c35
          replace H := Option.bind_eq_some_iff.mp H
          obtain ⟨t348, A360, H⟩ := H
          (try dsimp only at H)
          have A36 := am A360
          clear A360
          by_cases c37 : t348 = true
          ·subst c37
           rw [if_pos rfl] at H
           have H' := am H
           clear H
           have p346 : 0 ≤ (x45_3 : Int) := oq
           have q346 : x45_3 < (l0_2.length : Int) := oq
           obtain ⟨ad346, A346_1, c346_1, A346_2, c346_2, e346, hx346_0, hx346_1, hx346_2, hl346_1, hi346_1, hl346_2, hi346_2⟩ := at_T38 HR0_2.out x45_3 p346 q346
           cases e346
           replace hx346_0 := cw hx346_0
           replace hx346_1 := cw hx346_1
           replace hx346_2 := cw hx346_2
           have HR346_1 := am hi346_1
           have HC346_1 := am hl346_1
           clear hi346_1 hl346_1
           have HR346_2 := am hi346_2
           have HC346_2 := am hl346_2
           clear hi346_2 hl346_2
           replace p346 := eq_true p346
           replace q346 := eq_true q346
           go_wp2_with (first | ((with_reducible refine gate_dst (N := 6) rfl ?_); (try (refine gate_guard (by rfl) ?_; dsimp only)); refine bx 6 #[.string (⟨#[]⟩ : ByteArray), .slice none 0 0, .slice none 0 0] 38 ?_; intro gb347 hg w38 hbox hb; have BK347 := am hbox; have GE347 := sz hg; have NB341_347 := nl hg BK341; have NB347_341 := ng hg BK341; replace BK341 := bk BK341 hb; replace HB := bs hb; clear hb hbox hg; have hnb39 := NB347_341.out; have hnc39 := NB341_347.out; obtain ⟨zds, zdt, zdu, zdv, zdw, zdx⟩ := bc3 BK347; obtain ⟨zdy, zdz, zea, zeb, zec, zed, zee, zef⟩ := bc4 BK341) | ((with_reducible refine gate_callee (f := 33) rfl ?_); refine gL (some 53) Tryz.func33 #[.slice A0_0 l0_0.length c0_0, .agg #[.string ((rd_T38 l0_2 x45_3).f0), .slice A346_1 ((rd_T38 l0_2 x45_3).f1).length c346_1, .slice A346_2 ((rd_T38 l0_2 x45_3).f2).length c346_2]] ?_; (with_reducible refine (paradigm_Valid.calls k3 _ _ l0_0 ((rd_T38 l0_2 x45_3).f0) _ _ ((rd_T38 l0_2 x45_3).f1) _ _ ((rd_T38 l0_2 x45_3).f2) true _ ?side1 ?side2 ?side3 ?side4 ?side5 ?side6 (Glob.below HG.out bq) A36.out).mono ?_); (case side1 => exact Kd.C_below HR0_0.out bq); (case side2 => exact HC0_0.out); (case side3 => exact Kd.C_below HR346_1.out bq); (case side4 => exact HC346_1.out); (case side5 => exact Kd.C_below HR346_2.out bq); (case side6 => exact HC346_2.out); rintro e w42 ⟨rfl, hb⟩; refine ⟨_, rfl, ?_⟩; replace BK341 := am (blk_below (g := gb341) (o := .cells #[.slice A0_0 l0_0.length c0_0, .slice A0_1 l0_1.length c0_1, .slice (some ad346) l0_2.length c0_2, .slice A0_3 l0_3.length c0_3] 58 (0, 0)) (bf BK341) hb); replace BK347 := am (blk_below (g := gb347) (o := .cells #[.string ((rd_T38 l0_2 x45_3).f0), .slice A346_1 ((rd_T38 l0_2 x45_3).f1).length c346_1, .slice A346_2 ((rd_T38 l0_2 x45_3).f2).length c346_2] 38 (0, 0)) (bp BK347) hb); replace HB := bs hb; (try clear hb)))
           go_roundg k3
           case measure => have := HJ1.out; have := HK2.out; have := HK3.out; omega
           case rel => exact ⟨(wrap64 (x45_3 + 1)), rq, H', ⟨by have := HJ1.out; have := HK2.out; have := HK3.out; omega⟩, ⟨bd BK341⟩, ⟨bq⟩⟩
          replace c37 := Bool.eq_false_iff.mpr c37
          subst c37
          rw [if_neg nf] at H
          obtain rfl := Option.some.inj H
          have p346 : 0 ≤ (x45_3 : Int) := oq
          have q346 : x45_3 < (l0_2.length : Int) := oq
          obtain ⟨ad346, A346_1, c346_1, A346_2, c346_2, e346, hx346_0, hx346_1, hx346_2, hl346_1, hi346_1, hl346_2, hi346_2⟩ := at_T38 HR0_2.out x45_3 p346 q346
          cases e346
          replace hx346_0 := cw hx346_0
          replace hx346_1 := cw hx346_1
          replace hx346_2 := cw hx346_2
          have HR346_1 := am hi346_1
          have HC346_1 := am hl346_1
          clear hi346_1 hl346_1
          have HR346_2 := am hi346_2
          have HC346_2 := am hl346_2
          clear hi346_2 hl346_2
          replace p346 := eq_true p346
          replace q346 := eq_true q346
          go_wp2_with (first | ((with_reducible refine gate_dst (N := 6) rfl ?_); (try (refine gate_guard (by rfl) ?_; dsimp only)); refine bx 6 #[.string (⟨#[]⟩ : ByteArray), .slice none 0 0, .slice none 0 0] 38 ?_; intro gb347 hg w43 hbox hb; have BK347 := am hbox; have GE347 := sz hg; have NB341_347 := nl hg BK341; have NB347_341 := ng hg BK341; replace BK341 := bk BK341 hb; replace HB := bs hb; clear hb hbox hg; have hnb44 := NB347_341.out; have hnc44 := NB341_347.out; obtain ⟨zeg, zeh, zei, zej, zek, zel⟩ := bc3 BK347; obtain ⟨zem, zen, zeo, zep, zeq, zer, zes, zet⟩ := bc4 BK341) | ((with_reducible refine gate_callee (f := 33) rfl ?_); refine gL (some 53) Tryz.func33 #[.slice A0_0 l0_0.length c0_0, .agg #[.string ((rd_T38 l0_2 x45_3).f0), .slice A346_1 ((rd_T38 l0_2 x45_3).f1).length c346_1, .slice A346_2 ((rd_T38 l0_2 x45_3).f2).length c346_2]] ?_; (with_reducible refine (paradigm_Valid.calls k3 _ _ l0_0 ((rd_T38 l0_2 x45_3).f0) _ _ ((rd_T38 l0_2 x45_3).f1) _ _ ((rd_T38 l0_2 x45_3).f2) false _ ?side1 ?side2 ?side3 ?side4 ?side5 ?side6 (Glob.below HG.out bq) A36.out).mono ?_); (case side1 => exact Kd.C_below HR0_0.out bq); (case side2 => exact HC0_0.out); (case side3 => exact Kd.C_below HR346_1.out bq); (case side4 => exact HC346_1.out); (case side5 => exact Kd.C_below HR346_2.out bq); (case side6 => exact HC346_2.out); rintro e w47 ⟨rfl, hb⟩; refine ⟨_, rfl, ?_⟩; replace BK341 := am (blk_below (g := gb341) (o := .cells #[.slice A0_0 l0_0.length c0_0, .slice A0_1 l0_1.length c0_1, .slice (some ad346) l0_2.length c0_2, .slice A0_3 l0_3.length c0_3] 58 (0, 0)) (bf BK341) hb); replace BK347 := am (blk_below (g := gb347) (o := .cells #[.string ((rd_T38 l0_2 x45_3).f0), .slice A346_1 ((rd_T38 l0_2 x45_3).f1).length c346_1, .slice A346_2 ((rd_T38 l0_2 x45_3).f2).length c346_2] 38 (0, 0)) (bp BK347) hb); replace HB := bs hb; (try clear hb)))
          go_ret
          exact ⟨eq', bq⟩
         rw [if_neg c35] at H
         exact absurd H (by simp)
        rw [if_neg c34] at H
        exact absurd H (by simp)
       rw [if_neg c33] at H
       have c33b0 : decide (x45_3 < (l0_2.length : Int)) = false := decide_eq_false c33
       clear c33
       replace H := Option.bind_eq_some_iff.mp H
       obtain ⟨t349, A480, H⟩ := H
       (try dsimp only at H)
       have A48 := am A480
       clear A480
       obtain rfl := Option.some.inj H
       obtain ⟨zeu, zev, zew, zex, zey, zez, zfa, zfb⟩ := bc4 BK341
       go_wp2_with (first | ((with_reducible refine gate_callee (f := 34) rfl ?_); refine gL (some 62) Tryz.func34 #[.slice A0_0 l0_0.length c0_0, .slice A0_3 l0_3.length c0_3] ?_; (with_reducible refine (lexicon_Valid.calls k3 _ _ l0_0 _ _ l0_3 t349 _ (cq HR0_0) HC0_0.out (cq HR0_3) HC0_3.out (Glob.below HG.out bq) A48.out).mono ?_); rintro e w50 ⟨rfl, hb⟩; refine ⟨_, rfl, ?_⟩; replace BK341 := bk BK341 hb; replace HB := bs hb; (try clear hb)))
       go_ret
       exact ⟨eq', bq⟩
theorem check_par1.calls (s0 nm : ByteArray) (A1 : Option Addr) (n1 c1 : Nat) (A2 : Option Addr) (n2 c2 : Nat) (b : Nat) (w : World) (hb : w.cell? ⟨b, 0, none⟩ = some (.string nm)) :
  Calls Tryz.prog 16 #[.agg #[.string s0, .slice A1 n1 c1, .slice A2 n2 c2], .pointer (some ⟨b, 0, none⟩)] w fun e w' => e = .returned (.bool (s0.toList == nm.toList)) ∧ Below w.heap.size w w' := by
 have hba := fun o => pw_cell_below (below_alloc (Below.refl w.heap.size w) o) hb
 go_enter Tryz.func16, Tryz.ntmps16
 go_wp2
 go_ret
 exact ⟨rfl, below_alloc (Below.refl _ _) _⟩
theorem par_index.calls (A0 : Option Addr) (c0 : Nat) (l : List S38) (nm : ByteArray) (b : Nat) (w : World) (hr0 : Kd.C k38 w A0 l.length l) (hc0 : l.length ≤ c0) (hl : (l.length : Int) ≤ 1000000000) (hb : w.cell? ⟨b, 0, none⟩ = some (.string nm)) :
  Calls Tryz.prog 35 #[.slice A0 l.length c0, .func (.func 16) #[] #[.pointer (some ⟨b, 0, none⟩)]] w fun e w' => e = .returned (.int .i64 (firstPar nm l 0)) ∧ Below w.heap.size w w' := by
 have HR := am hr0
 have HL := am hl
 have HBC := am hb
 obtain ⟨r, hr⟩ : ∃ r, firstPar nm l 0 = r := ⟨_, rfl⟩
 rw [hr]
 have HA0 := am hr
 clear hr0 hl hb hr
 go_enter Tryz.func35, Tryz.ntmps35
 go_wp2
 go_loopg [8] (l.length + 1) (fun kq v8 w' => ∃ (m : Nat), v8 = .int .i64 (m : Int) ∧ Aside0 (m ≤ l.length) ∧ Aside0 (l.length - m < kq) ∧ Aside0 (firstPar nm (l.drop m) m = r) ∧ Aside0 (Below w.heap.size w w'))
 case atStart => exact ⟨0, rfl, ⟨Nat.zero_le _⟩, ⟨by omega⟩, HA0, ⟨Below.refl _ _⟩⟩
 case round =>
  obtain ⟨m, rfl, HM, HK, HA, HB⟩ := hrel
  obtain ⟨k1, rfl⟩ : ∃ k1, gk = k1 + 1 := ⟨gk - 1, by have := HK.out; omega⟩
  by_cases c1 : (m : Int) < (l.length : Int)
  ·obtain ⟨ad2, A1, c1_, A2, c2_, ead2, hx0, hx1, hx2, _, _, _, _⟩ := at_T38 (Kd.C_below HR.out HB.out) (m : Int) (by omega) c1
   subst ead2
   rw [Int.toNat_natCast] at hx0 hx1 hx2
   have p1 : (0 ≤ (m : Int)) = True := eq_true (by omega)
   have q2 : ((m : Int) < (l.length : Int)) = True := eq_true c1
   have q2b : decide ((m : Int) < (l.length : Int)) = true := decide_eq_true c1
   have HML := am (show m < l.length by omega)
   have hA := HA.out
   have hxe : l[m]'(HML.out) = rd_T38 l (m : Int) := by simp [rd_T38, List.getD, List.getElem?_eq_getElem HML.out]
   rw [List.drop_eq_getElem_cons HML.out, firstPar, hxe] at hA
   have hwm : wrap64 ((m : Int) + 1) = (m : Int) + 1 := by have := HL.out; have := HML.out; unfold wrap64; omega
   clear c1 hxe HA
   by_cases c2 : (rd_T38 l (m : Int)).f0.toList = nm.toList
   ·rw [if_pos c2] at hA
    subst hA
    have c2b : ((rd_T38 l (m : Int)).f0.toList == nm.toList) = true := beq_iff_eq.mpr c2
    clear c2
    go_wp2_with (first | (go_at_call 16; refine (check_par1.calls _ nm _ _ _ _ _ _ b _ (pw_cell_below HB.out HBC.out)).mono ?_; rintro e w2 ⟨rfl, hbel⟩; have HB2 := am (below_step HB.out hbel); clear hbel))
    go_ret
    exact ⟨rfl, HB2.out⟩
   rw [if_neg c2] at hA
   have HA' := am hA
   have c2b : ((rd_T38 l (m : Int)).f0.toList == nm.toList) = false := beq_eq_false_iff_ne.mpr c2
   clear c2 hA
   go_wp2_with (first | (go_at_call 16; refine (check_par1.calls _ nm _ _ _ _ _ _ b _ (pw_cell_below HB.out HBC.out)).mono ?_; rintro e w2 ⟨rfl, hbel⟩; have HB2 := am (below_step HB.out hbel); clear hbel))
   go_roundg k1
   case measure => omega
   case rel => exact ⟨m + 1, by first | rfl | (rw [hwm]; rfl), ⟨HML.out⟩, ⟨by have := HK.out; have := HML.out; omega⟩, HA', HB2⟩
  obtain rfl : m = l.length := by have := HM.out; omega
  have q2b : decide ((l.length : Int) < (l.length : Int)) = false := decide_eq_false c1
  have hA := HA.out
  rw [List.drop_eq_nil_of_le (Nat.le_refl _), firstPar] at hA
  subst hA
  clear c1
  go_wp2
  go_ret
  exact ⟨rfl, HB.out⟩
theorem par_contains.calls (A0 : Option Addr) (c0 : Nat) (l : List S38) (nm : ByteArray) (b : Nat) (r : Bool) (w : World) (hr0 : Kd.C k38 w A0 l.length l) (hc0 : l.length ≤ c0) (hl : (l.length : Int) ≤ 1000000000) (hb : w.cell? ⟨b, 0, none⟩ = some (.string nm)) (h : hasPar nm l = r) :
  Calls Tryz.prog 15 #[.slice A0 l.length c0, .func (.func 16) #[] #[.pointer (some ⟨b, 0, none⟩)]] w fun e w' => e = .returned (.bool r) ∧ Below w.heap.size w w' := by
 have HCON := am (par_index.calls A0 c0 l nm b w hr0 hc0 hl hb)
 have hd := firstPar_has nm l 0
 rw [h] at hd
 obtain ⟨f, hf⟩ : ∃ f, firstPar nm l 0 = f := ⟨_, rfl⟩
 rw [hf] at HCON hd
 have hd2 : decide (f ≥ 0) = r := hd
 clear hr0 hl hb h hf
 cases r
 ·go_enter Tryz.func15, Tryz.ntmps15
  go_wp2_with (first | (go_at_call 35; refine HCON.out.mono ?_; rintro e w2 ⟨rfl, hbel⟩; have HB2 := am hbel; clear hbel))
  go_ret
  exact ⟨by first | rfl | (simp; done) | simp [hd], HB2.out⟩
 go_enter Tryz.func15, Tryz.ntmps15
 go_wp2_with (first | (go_at_call 35; refine HCON.out.mono ?_; rintro e w2 ⟨rfl, hbel⟩; have HB2 := am hbel; clear hbel))
 go_ret
 exact ⟨by first | rfl | (simp; done) | simp [hd], HB2.out⟩
theorem api_Paradigm_15.calls (A0 : Option Addr) (c0 : Nat) (l0 : List S38) (a1 : ByteArray) (r : Bool) (b : Nat) (w : World) (hr0 : Kd.C k38 w A0 l0.length l0) (hc0 : l0.length ≤ c0) (hb : w.cell? ⟨b, 0, none⟩ = some (.string a1)) (h : api_Paradigm_15.f l0 a1 = some r) :
  Calls Tryz.prog 15 #[.slice A0 l0.length c0, .func (.func 16) #[] #[.pointer (some ⟨b, 0, none⟩)]] w fun e w' => e = .returned (.bool r) ∧ Below w.heap.size w w' := by
 unfold api_Paradigm_15.f at h
 split at h
 ·rename_i h1
  exact par_contains.calls A0 c0 l0 a1 b r w hr0 hc0 h1 hb (Option.some.inj h)
 cases h
theorem check_feat1.calls (s0 s1 nm : ByteArray) (b : Nat) (w : World) (hb : w.cell? ⟨b, 0, none⟩ = some (.string nm)) :
  Calls Tryz.prog 19 #[.agg #[.string s0, .string s1], .pointer (some ⟨b, 0, none⟩)] w fun e w' => e = .returned (.bool (s0.toList == nm.toList)) ∧ Below w.heap.size w w' := by
 have hba := fun o => pw_cell_below (below_alloc (Below.refl w.heap.size w) o) hb
 go_enter Tryz.func19, Tryz.ntmps19
 go_wp2
 go_ret
 exact ⟨rfl, below_alloc (Below.refl _ _) _⟩
theorem feat_index.calls (A0 : Option Addr) (c0 : Nat) (l : List S65) (nm : ByteArray) (b : Nat) (w : World) (hr0 : Kd.C k65 w A0 l.length l) (hc0 : l.length ≤ c0) (hl : (l.length : Int) ≤ 1000000000) (hb : w.cell? ⟨b, 0, none⟩ = some (.string nm)) :
  Calls Tryz.prog 36 #[.slice A0 l.length c0, .func (.func 19) #[] #[.pointer (some ⟨b, 0, none⟩)]] w fun e w' => e = .returned (.int .i64 (firstFeat nm l 0)) ∧ Below w.heap.size w w' := by
 have HR := am hr0
 have HL := am hl
 have HBC := am hb
 obtain ⟨r, hr⟩ : ∃ r, firstFeat nm l 0 = r := ⟨_, rfl⟩
 rw [hr]
 have HA0 := am hr
 clear hr0 hl hb hr
 go_enter Tryz.func36, Tryz.ntmps36
 go_wp2
 go_loopg [8] (l.length + 1) (fun kq v8 w' => ∃ (m : Nat), v8 = .int .i64 (m : Int) ∧ Aside0 (m ≤ l.length) ∧ Aside0 (l.length - m < kq) ∧ Aside0 (firstFeat nm (l.drop m) m = r) ∧ Aside0 (Below w.heap.size w w'))
 case atStart => exact ⟨0, rfl, ⟨Nat.zero_le _⟩, ⟨by omega⟩, HA0, ⟨Below.refl _ _⟩⟩
 case round =>
  obtain ⟨m, rfl, HM, HK, HA, HB⟩ := hrel
  obtain ⟨k1, rfl⟩ : ∃ k1, gk = k1 + 1 := ⟨gk - 1, by have := HK.out; omega⟩
  by_cases c1 : (m : Int) < (l.length : Int)
  ·obtain ⟨ad2, ead2, hx0, hx1⟩ := at_T65 (Kd.C_below HR.out HB.out) (m : Int) (by omega) c1
   subst ead2
   rw [Int.toNat_natCast] at hx0 hx1
   have p1 : (0 ≤ (m : Int)) = True := eq_true (by omega)
   have q2 : ((m : Int) < (l.length : Int)) = True := eq_true c1
   have q2b : decide ((m : Int) < (l.length : Int)) = true := decide_eq_true c1
   have HML := am (show m < l.length by omega)
   have hA := HA.out
   have hxe : l[m]'(HML.out) = rd_T65 l (m : Int) := by simp [rd_T65, List.getD, List.getElem?_eq_getElem HML.out]
   rw [List.drop_eq_getElem_cons HML.out, firstFeat, hxe] at hA
   have hwm : wrap64 ((m : Int) + 1) = (m : Int) + 1 := by have := HL.out; have := HML.out; unfold wrap64; omega
   clear c1 hxe HA
   by_cases c2 : (rd_T65 l (m : Int)).f0.toList = nm.toList
   ·rw [if_pos c2] at hA
    subst hA
    have c2b : ((rd_T65 l (m : Int)).f0.toList == nm.toList) = true := beq_iff_eq.mpr c2
    clear c2
    go_wp2_with (first | (go_at_call 19; refine (check_feat1.calls _ _ nm b _ (pw_cell_below HB.out HBC.out)).mono ?_; rintro e w2 ⟨rfl, hbel⟩; have HB2 := am (below_step HB.out hbel); clear hbel))
    go_ret
    exact ⟨rfl, HB2.out⟩
   rw [if_neg c2] at hA
   have HA' := am hA
   have c2b : ((rd_T65 l (m : Int)).f0.toList == nm.toList) = false := beq_eq_false_iff_ne.mpr c2
   clear c2 hA
   go_wp2_with (first | (go_at_call 19; refine (check_feat1.calls _ _ nm b _ (pw_cell_below HB.out HBC.out)).mono ?_; rintro e w2 ⟨rfl, hbel⟩; have HB2 := am (below_step HB.out hbel); clear hbel))
   go_roundg k1
   case measure => omega
   case rel => exact ⟨m + 1, by first | rfl | (rw [hwm]; rfl), ⟨HML.out⟩, ⟨by have := HK.out; have := HML.out; omega⟩, HA', HB2⟩
  obtain rfl : m = l.length := by have := HM.out; omega
  have q2b : decide ((l.length : Int) < (l.length : Int)) = false := decide_eq_false c1
  have hA := HA.out
  rw [List.drop_eq_nil_of_le (Nat.le_refl _), firstFeat] at hA
  subst hA
  clear c1
  go_wp2
  go_ret
  exact ⟨rfl, HB.out⟩
theorem feat_contains.calls (A0 : Option Addr) (c0 : Nat) (l : List S65) (nm : ByteArray) (b : Nat) (r : Bool) (w : World) (hr0 : Kd.C k65 w A0 l.length l) (hc0 : l.length ≤ c0) (hl : (l.length : Int) ≤ 1000000000) (hb : w.cell? ⟨b, 0, none⟩ = some (.string nm)) (h : hasFeat nm l = r) :
  Calls Tryz.prog 18 #[.slice A0 l.length c0, .func (.func 19) #[] #[.pointer (some ⟨b, 0, none⟩)]] w fun e w' => e = .returned (.bool r) ∧ Below w.heap.size w w' := by
 have HCON := am (feat_index.calls A0 c0 l nm b w hr0 hc0 hl hb)
 have hd := firstFeat_has nm l 0
 rw [h] at hd
 obtain ⟨f, hf⟩ : ∃ f, firstFeat nm l 0 = f := ⟨_, rfl⟩
 rw [hf] at HCON hd
 have hd2 : decide (f ≥ 0) = r := hd
 clear hr0 hl hb h hf
 cases r
 ·go_enter Tryz.func18, Tryz.ntmps18
  go_wp2_with (first | (go_at_call 36; refine HCON.out.mono ?_; rintro e w2 ⟨rfl, hbel⟩; have HB2 := am hbel; clear hbel))
  go_ret
  exact ⟨by first | rfl | (simp; done) | simp [hd], HB2.out⟩
 go_enter Tryz.func18, Tryz.ntmps18
 go_wp2_with (first | (go_at_call 36; refine HCON.out.mono ?_; rintro e w2 ⟨rfl, hbel⟩; have HB2 := am hbel; clear hbel))
 go_ret
 exact ⟨by first | rfl | (simp; done) | simp [hd], HB2.out⟩
theorem api_Feature_18.calls (A0 : Option Addr) (c0 : Nat) (l0 : List S65) (a1 : ByteArray) (r : Bool) (b : Nat) (w : World) (hr0 : Kd.C k65 w A0 l0.length l0) (hc0 : l0.length ≤ c0) (hb : w.cell? ⟨b, 0, none⟩ = some (.string a1)) (h : api_Feature_18.f l0 a1 = some r) :
  Calls Tryz.prog 18 #[.slice A0 l0.length c0, .func (.func 19) #[] #[.pointer (some ⟨b, 0, none⟩)]] w fun e w' => e = .returned (.bool r) ∧ Below w.heap.size w w' := by
 unfold api_Feature_18.f at h
 split at h
 ·rename_i h1
  exact feat_contains.calls A0 c0 l0 a1 b r w hr0 hc0 h1 hb (Option.some.inj h)
 cases h
end Go.Proofs.YtcoialpohgfikaaGreatDoor.C
