/- A part of the proof of TopForms, made short by a program. -/
import Derived.Test.YtcoialpohgfikaaGreatDoorM2
import Derived.Test.YtcoialpohgfikaaGreatDoorM3
import Derived.Test.YtcoialpohgfikaaGreatDoorM4
import Derived.Test.YtcoialpohgfikaaGreatDoorM7
import Derived.Test.YtcoialpohgfikaaGreatDoorM6
namespace Go.Proofs.YtcoialpohgfikaaGreatDoor.C
open Go.RowKit Go.Proofs.YtcoialpohgfikaaGreatDoorW.PrintWords Go.Proofs.YtcoialpohgfikaaGreatDoorW.PrintLast Go.Proofs.YtcoialpohgfikaaGreatDoorW.PrintMore
attribute [local go_sem] max2_int min2_int max_two min_two max_three min_three max_four min_four
set_option linter.unusedVariables false
set_option maxHeartbeats 8000000
set_option maxRecDepth 100000
set_option linter.unusedSimpArgs false
def slices_Reverse_int_int.T3 : Bool × List (List Nat × List Nat) := (true, [([], []), ([], []), ([], []), ([], []), ([], []), ([], []), ([4, 5], [4, 5]), ([6], [6]), ([], []), ([], []), ([8, 9], [8, 9]), ([10], [10]), ([0, 1, 0, 1, 4, 5, 6, 7, 11], [0, 1]), ([12, 7, 0, 1, 4, 5, 6, 7, 11], [7, 12]), ([2, 3, 0, 1, 2, 3, 4, 5, 6, 7, 8, 9, 10, 11, 12, 13], [2, 3]), ([14, 11, 13, 0, 1, 2, 3, 4, 5, 6, 7, 8, 9, 10, 11, 12, 13], [11, 14])])
def slices_Reverse_int_int.B3 : List Nat := [0, 0, 0, 0, 0, 0, 48, 112, 0, 0, 768, 1792, 4083, 8179, 16383, 32767]
theorem slices_Reverse_int_int.tab3 : rtab .any (opsOf Tryz.f108 3) = slices_Reverse_int_int.T3 := by kernel_rfl
theorem slices_Reverse_int_int.bits3 : waitsOk slices_Reverse_int_int.T3.2 slices_Reverse_int_int.B3 = true := by kernel_rfl
theorem slices_Reverse_int_int.calls (k : Nat) (P0_ : Nat → Prop) (u9000_ : Value) (l0 : List Int) (r : List Int) (w0 w : World) (hB : Below w0.heap.size w0 w) (ho0 : Kd.R (Kd.int .i64) 3 w w0.heap.size P0_ u9000_ l0) (h : slices_Reverse_int_int.f k l0 = some r) :
  Calls Tryz.prog 108 #[u9000_] w fun e w' => e = .returned (.tuple #[]) ∧ Kd.R (Kd.int .i64) 3 w' w0.heap.size (fun k_ => (P0_ k_ ∨ w.heap.size ≤ k_)) u9000_ r ∧ Below w0.heap.size w0 w' ∧ Kept w w' (fun k_ => P0_ k_) := by
 have HO0 := am (show Kd.R (Kd.int .i64) 3 w w0.heap.size (fun k_ => (P0_ k_ ∨ w.heap.size ≤ k_)) u9000_ l0 from Kd.R_mono ho0 (fun k_ hk => (.inl hk)))
 have HK := am (Kept.refl w (fun k_ => P0_ k_))
 have HW0 := am hB.size
 have HB := am hB
 clear hB
 have H : (slices_Reverse_int_int.l0 k l0 0 (wrap64 ((l0.length : Int) - 1))) = some r := h
 clear h
 have H' := am H
 clear H
 obtain ⟨Ao2, co2, eo2⟩ := Kd.R_slice HO0.out
 subst eo2
 go_enter Tryz.func108, Tryz.ntmps108
 go_wp2
 go_loopg [2, 3] k (fun kq v2 v3 w' => ∃ (x0_1 : List Int) (x2_1 : Int) (x3_1 : Int), v2 = .int .i64 x2_1 ∧ v3 = .int .i64 x3_1 ∧ Aside0 (slices_Reverse_int_int.l0 kq x0_1 x2_1 x3_1 = some r) ∧ Aside0 (kq ≤ k) ∧ Aside0 (Kd.R (Kd.int .i64) 3 w' w0.heap.size (fun k_ => (P0_ k_ ∨ w.heap.size ≤ k_)) (.slice Ao2 l0.length co2) x0_1) ∧ Aside0 (Kept w w' (fun k_ => P0_ k_)) ∧ Aside0 (Below w0.heap.size w0 w'))
 case atStart => exact ⟨(l0), (0), (wrap64 ((l0.length : Int) - 1)), rq, rq, H', ⟨Nat.le_refl _⟩, ⟨rR HO0⟩, ⟨by repeat (first | (with_reducible first | exact HK.out | apply Kept.alloc | apply Kept.drewN | apply Kept.drew) | exact HK.out)⟩, ⟨bq⟩⟩
 case round =>
  clear H'
  obtain ⟨x0_1, x2_1, x3_1, rfl, rfl, HA, HK1, HO_0, HK, HB⟩ := hrel
  have hl0_1 := (Kd.R_reads' HO_0.out).1
  rw [hl0_1] at HO_0
  (try simp only [hl0_1])
  cases gk with
  | zero => exact absurd HA.out (by simp [slices_Reverse_int_int.l0])
  | succ k1 =>
   have H := HA.out
   clear HA
   simp only [slices_Reverse_int_int.l0] at H
   by_cases c3 : x2_1 < x3_1
   ·rw [if_pos c3] at H
    have c3b0 : decide (x2_1 < x3_1) = true := decide_eq_true c3
    clear c3
    by_cases c4 : 0 ≤ x3_1
    ·rw [if_pos c4] at H
     have c4b0 : decide (0 ≤ x3_1) = true := decide_eq_true c4
     clear c4
     by_cases c5 : x3_1 < (x0_1.length : Int)
     ·rw [if_pos c5] at H
      have c5b0 : decide (x3_1 < (x0_1.length : Int)) = true := decide_eq_true c5
      clear c5
      by_cases c6 : 0 ≤ x2_1
      ·rw [if_pos c6] at H
       have c6b0 : decide (0 ≤ x2_1) = true := decide_eq_true c6
       clear c6
       by_cases c7 : x2_1 < (x0_1.length : Int)
       ·rw [if_pos c7] at H
        have c7b0 : decide (x2_1 < (x0_1.length : Int)) = true := decide_eq_true c7
        clear c7
        obtain ⟨y211, hy211⟩ : ∃ y_ : List Int, y_ = (x0_1.set (x2_1 : Int).toNat (rd x0_1 x3_1)) := ⟨_, rfl⟩
        replace H : (slices_Reverse_int_int.l0 k1 (y211.set (x3_1 : Int).toNat (rd x0_1 x2_1)) (wrap64 (x2_1 + 1)) (wrap64 (x3_1 - 1))) = some r := by first | (rw [hy211]; with_reducible exact H) | (have H2_ := (Option.bind_some _ _).symm.trans H; rw [hy211]; with_reducible exact H2_) | (have H2_ := (Option.bind_some _ _).symm.trans H; with_reducible exact H2_) | with_reducible exact H | (rw [hy211]; exact H) | exact H
        have Ny211 := am hy211
        clear hy211
        obtain ⟨y212, hy212⟩ : ∃ y_ : List Int, y_ = (y211.set (x3_1 : Int).toNat (rd x0_1 x2_1)) := ⟨_, rfl⟩
        replace H : (slices_Reverse_int_int.l0 k1 y212 (wrap64 (x2_1 + 1)) (wrap64 (x3_1 - 1))) = some r := by first | (rw [hy212]; with_reducible exact H) | (have H2_ := (Option.bind_some _ _).symm.trans H; rw [hy212]; with_reducible exact H2_) | (have H2_ := (Option.bind_some _ _).symm.trans H; with_reducible exact H2_) | with_reducible exact H | (rw [hy212]; exact H) | exact H
        have Ny212 := am hy212
        clear hy212
        have H' := am H
        clear H
        try go_wp2
        have n0_ := am (Kd.R_drew HO_0.out)
        have n1_ := am (Kept.drew HK.out)
        have n2_ := am (below_drew1 HB.out)
        clear HO_0
        clear HK
        clear HB
        have HO_0 := n0_
        have HK := n1_
        have HB := n2_
        clear n0_ n1_ n2_
        have p209 : 0 ≤ (x3_1 : Int) := oq
        have q209 : x3_1 < (x0_1.length : Int) := oq
        obtain ⟨ad209, e209, hx209_0⟩ := Kd.at_int (Kd.R_reads' HO_0.out).2.2 x3_1 p209 q209
        cases e209
        replace p209 := eq_true p209
        replace q209 := eq_true q209
        have p210 : 0 ≤ (x2_1 : Int) := oq
        have q210 : x2_1 < (x0_1.length : Int) := oq
        obtain ⟨ad210, e210, hx210_0⟩ := Kd.at_int (Kd.R_reads' HO_0.out).2.2 x2_1 p210 q210
        obtain rfl : ad209 = ad210 := (by injection e210)
        replace p210 := eq_true p210
        replace q210 := eq_true q210
        have p8 : 0 ≤ (x2_1 : Int) := oq
        have q8 : (x2_1 : Int) < ((x0_1.length : Int) : Int) := oq
        obtain ⟨go8, co8, eo8, gb8, gl8, cl8, HG8⟩ := Kd.R_form HO_0.out (by omega)
        (first | cases eo8 | (injection eo8 with ea_ en_ ec_; (first | subst ea_ | (injection ea_ with ea_; subst ea_)); subst ec_; clear en_))
        have GB8 := am gb8
        have GG8 := am HG8
        clear gb8 gl8 HG8
        have HMgo8 := am (show (P0_ go8 ∨ w.heap.size ≤ go8) from (HO_0.out.1 _ rfl))
        (first | simp only [add_plain] at hx209_0 | skip)
        (first | simp only [add_plain] at hx210_0 | skip)
        obtain ⟨hx8_0, hf8_0⟩ := Kd.R_celln 0 HO_0.out (x2_1 : Int) p8 q8
        replace p8 := eq_true p8
        replace q8 := eq_true q8
        have HP11 := Kd.R_putn HO_0.out (x2_1 : Int) (rd x0_1 x3_1)
        rw [← Ny211.out] at HP11
        have HQ11 := am HP11
        clear HP11
        have p9 : 0 ≤ (x3_1 : Int) := oq
        have q9 : (x3_1 : Int) < ((x0_1.length : Int) : Int) := oq
        obtain ⟨hx9_0, hf9_0⟩ := Kd.R_celln 0 HQ11.out (x3_1 : Int) p9 q9
        replace p9 := eq_true p9
        replace q9 := eq_true q9
        have HP12 := Kd.R_putn HQ11.out (x3_1 : Int) (rd x0_1 x2_1)
        rw [← Ny212.out] at HP12
        have HQ12 := am HP12
        clear HP12
        refine start_ (n := 16) (S := fun w' => w'.cell? ⟨go8, (x3_1).toNat, none⟩ = some (.int .i64 (rd x0_1 x3_1)) ∧ w'.cell? ⟨go8, (x2_1).toNat, none⟩ = some (.int .i64 (rd x0_1 x2_1))) (ds := [13, 15]) (tf 16 0) (by kernel_rfl) rfl rfl ⟨hx209_0, hx210_0⟩ (fun hHeld => ?_); refine with_tabW slices_Reverse_int_int.tab3 slices_Reverse_int_int.bits3 (fun HT_ HW_ => ?_)
        generalize wr.drew = w10 at HO_0 HK HB GG8 HQ11 HQ12 hf8_0 hf9_0 hx209_0 hx210_0 hx8_0 hx9_0 hHeld ⊢
        refine pu 0 14 (tf 16 1) ?_
        refine pu 1 15 (tf 16 2) ?_
        refine pu 2 16 (tf 16 3) ?_
        refine pu 3 17 (tf 16 4) ?_
        refine pu 4 18 (tf 16 5) ?_
        refine pu 5 19 (tf 16 6) ?_
        refine pu 6 20 (tf 16 7) ?_
        refine pu 8 22 #[true, true, true, true, true, true, true, false, true, false, false, false, false, false, false, false] ?_
        refine pu 9 23 #[true, true, true, true, true, true, true, false, true, true, false, false, false, false, false, false] ?_
        refine pu 10 24 #[true, true, true, true, true, true, true, false, true, true, true, false, false, false, false, false] ?_
        refine take_ (i := 7) (N := some 21) (v := ?_) (a' := ?_) (tf 16 11) rfl rfl (take_ofW HT_.out HW_.out (by kernel_rfl)) (fun _ _ _ h => h) (Or.inl ⟨by rfl, ?_⟩) hHeld ?_ ?_
        rotate_left
        ·rintro w' ⟨s0, s1⟩
         go_simp
         with_reducible rfl
        rotate_left
        ·simp only [Act.put, List.setIfInBounds_toArray, List.set_cons_zero, List.set_cons_succ, i64_w, i32_w]
         rfl
        refine take_ (i := 11) (N := some 25) (v := ?_) (a' := ?_) (tf 16 12) rfl rfl (take_ofW HT_.out HW_.out (by kernel_rfl)) (fun _ _ _ h => h) (Or.inl ⟨by rfl, ?_⟩) hHeld ?_ ?_
        rotate_left
        ·rintro w' ⟨s0, s1⟩
         go_simp
         with_reducible rfl
        rotate_left
        ·simp only [Act.put, List.setIfInBounds_toArray, List.set_cons_zero, List.set_cons_succ, i64_w, i32_w]
         rfl
        refine pu 12 26 (tf 16 13) ?_
        refine last_ (i := 13) (N := none) (tf 16 14) rfl rfl (one_of HT_.out (by kernel_rfl)) (by decide) (fun K hK => ?_)
        refine skip_ (w1 := ?_) (by rfl) rfl ?_ ?_
        rotate_left
        ·go_simp
         rfl
        refine hK.out _ _ ?_
        clear hK K
        refine pu 14 27 (tf 16 15) ?_
        refine last_ (i := 15) (N := none) (tf 16 16) rfl rfl (one_of HT_.out (by kernel_rfl)) (by decide) (fun K hK => ?_)
        refine skip_ (w1 := ?_) (by rfl) rfl ?_ ?_
        rotate_left
        ·go_simp
         rfl
        refine hK.out _ _ ?_
        clear hK K
        refine done_ (done_of HT_.out (by kernel_rfl)) ?_
        try go_wp2
        (try simp only [← hl0_1])
        go_roundg k1
        case measure => have := HK1.out; omega
        case rel => exact ⟨(y212), (wrap64 (x2_1 + 1)), (wrap64 (x3_1 - 1)), rq, rq, H', ⟨by have := HK1.out; omega⟩, ⟨by (try simp only [hl0_1]); (with_reducible repeat (first | apply Kd.R_alloc | apply Kd.R_drewN | apply Kd.R_drew)); exact HQ12.out⟩, ⟨by repeat (first | (with_reducible first | exact HK.out | apply Kept.alloc | apply Kept.drewN | apply Kept.drew | refine Kept.setCell ?_ HMgo8.out _ | refine Kept.setCell ?_ HMgo8.out _) | exact HK.out)⟩, ⟨by repeat (first | (with_reducible first | exact HB.out | apply below_alloc | apply pw_below_drewN | apply below_drew1 | refine below_set ?_ GB8.out | refine below_set ?_ GB8.out) | exact HB.out)⟩⟩
       rw [if_neg c7] at H
       exact absurd H (by simp)
      rw [if_neg c6] at H
      exact absurd H (by simp)
     rw [if_neg c5] at H
     exact absurd H (by simp)
    rw [if_neg c4] at H
    exact absurd H (by simp)
   rw [if_neg c3] at H
   have c3b0 : decide (x2_1 < x3_1) = false := decide_eq_false c3
   clear c3
   obtain rfl := Option.some.inj H
   go_wp2
   first | go_end0 | ((try simp only [Exit.inBlock, Exit.then]); refine bodyPost_ret (results_none rfl _ _ _) rfl ?_)
   exact ⟨eq', (by first | exact (rR HO_0) | (simp only [hl0_1]; exact (rR HO_0))), bq, by repeat (first | (with_reducible first | exact HK.out | apply Kept.alloc | apply Kept.drewN | apply Kept.drew) | exact HK.out)⟩
theorem pattern_Suffixes.calls (k : Nat) (A0 : Option Addr) (c0 : Nat) (l0 : List (S48)) (A1 : Option Addr) (c1 : Nat) (l1 : List (S91)) (a2 : ByteArray) (r : List Int) (w : World) (hr0 : Kd.C k48 w A0 l0.length l0) (hc0 : l0.length ≤ c0) (hr1 : Kd.C k91 w A1 l1.length l1) (hc1 : l1.length ≤ c1) (hG : Glob w) (h : pattern_Suffixes.f k l0 l1 a2 = some r) :
  Calls Tryz.prog 101 #[.slice A0 l0.length c0, .slice A1 l1.length c1, .string a2] w fun e w' => ∃ v0_ : Value, e = .returned (v0_) ∧ Kd.R (Kd.int .i64) 3 w' w.heap.size (fun _ => True) v0_ r ∧ Below w.heap.size w w' := by
 have HG := am hG
 clear hG
 have HR0 := am hr0
 have HC0 := am hc0
 clear hr0 hc0
 have HR1 := am hr1
 have HC1 := am hc1
 clear hr1 hc1
 have HB := am (Below.refl w.heap.size w)
 have H : ((pattern_read.f l0 l1 a2).bind fun bt213 => (if bt213.2 = true then ((api_Item_106.f l1).bind fun t217 => ((api_Item_107.f k t217).bind fun t220 => ((slices_Reverse_int_int.f k bt213.1).bind fun t221 => ((pattern_lengths.f l0 t220 t221).bind fun t222 => (some t222))))) else (some ([] : List Int)))) = some r := h
 clear h
 replace H := Option.bind_eq_some_iff.mp H
 obtain ⟨⟨t213, t214⟩, A40, H⟩ := H
 (try dsimp only at H)
 have A4 := am A40
 clear A40
 by_cases c5 : t214 = true
 ·subst c5
  rw [if_pos rfl] at H
  replace H := Option.bind_eq_some_iff.mp H
  obtain ⟨t217, A60, H⟩ := H
  (try dsimp only at H)
  have A6 := am A60
  clear A60
  replace H := Option.bind_eq_some_iff.mp H
  obtain ⟨t220, A70, H⟩ := H
  (try dsimp only at H)
  have A7 := am A70
  clear A70
  replace H := Option.bind_eq_some_iff.mp H
  obtain ⟨t221, A80, H⟩ := H
  (try dsimp only at H)
  have A8 := am A80
  clear A80
  replace H := Option.bind_eq_some_iff.mp H
  obtain ⟨t222, A90, H⟩ := H
  (try dsimp only at H)
  have A9 := am A90
  clear A90
  obtain rfl := Option.some.inj H
  go_enter Tryz.func101, Tryz.ntmps101
  go_wp2_with (first | ((with_reducible refine gate_callee (f := 104) rfl ?_); refine gL (some 14) Tryz.func104 #[.slice A0 l0.length c0, .slice A1 l1.length c1, .string a2] ?_; (with_reducible refine (pattern_read.calls _ _ l0 _ _ l1 a2 t213 true _ (cd HR0) HC0.out (cd HR1) HC1.out (Glob.below HG.out bq) A4.out).mono ?_); rintro e w10 ⟨v215, rfl, ho0, hb⟩; refine ⟨_, rfl, ?_⟩; have HO216 := am (Kd.R_lower ho0 (below_size bq)); replace HB := bs hb; (try clear hb); (try clear ho0)) | ((with_reducible refine gate_callee (f := 106) rfl ?_); refine gL (some 20) Tryz.func106 #[.slice A1 l1.length c1] ?_; (with_reducible refine (api_Item_106.calls _ _ l1 t217 _ (cq HR1) HC1.out A6.out).mono ?_); rintro e w11 ⟨v218, rfl, ho0, hb⟩; refine ⟨_, rfl, ?_⟩; have HO219 := am (Kd.R_lower ho0 (below_size bq)); replace HO216 := am (Kd.R_below (rR HO216) hb); replace HB := bs hb; (try clear hb); (try clear ho0); obtain ⟨Ao12, co12, eo12⟩ := Kd.R_slice HO219.out; subst eo12) | ((with_reducible refine gate_callee (f := 107) rfl ?_); refine gL (some 22) Tryz.func107 #[.slice Ao12 t217.length co12] ?_; (with_reducible refine (api_Item_107.calls k (fun k_ => some k_ = (.slice Ao12 t217.length co12 : Value).ownBlock) (.slice Ao12 t217.length co12) t217 t220 w _ ?side1 ?side2 A7.out).mono ?_); (case side1 => repeat (first | (with_reducible first | exact HB.out | apply below_alloc | apply pw_below_drewN | apply below_drew1) | exact HB.out)); (case side2 => exact Kd.R_tight rfl HO219.out); rintro e w13 ⟨rfl, hy0, hb, hkp⟩; refine ⟨_, rfl, ?_⟩; replace HO216 := am (Kd.R_mono (ok' := fun k_ => True) (Kd.R_keptB ((Kd.R_apart' HO216.out (Kd.R_typed HO219.out) (by decide))) hkp (fun k_ hk_ hs_ => (hk_.2) hs_)) (fun k_ hk_ => trivial)); replace HO219 := am (Kd.R_reok rfl hy0 (fun k_ e_ => HO219.out.1 k_ e_)); replace HB := am (hb); (try clear hb); (try clear hkp); (try clear hy0); obtain ⟨Ao14, co14, eo14⟩ := Kd.R_slice HO216.out; subst eo14) | ((with_reducible refine gate_callee (f := 108) rfl ?_); refine gL (some 24) Tryz.func108 #[.slice Ao14 t213.length co14] ?_; (with_reducible refine (slices_Reverse_int_int.calls k (fun k_ => some k_ = (.slice Ao14 t213.length co14 : Value).ownBlock) (.slice Ao14 t213.length co14) t213 t221 w _ ?side1 ?side2 A8.out).mono ?_); (case side1 => repeat (first | (with_reducible first | exact HB.out | apply below_alloc | apply pw_below_drewN | apply below_drew1) | exact HB.out)); (case side2 => exact Kd.R_tight rfl HO216.out); rintro e w15 ⟨rfl, hy0, hb, hkp⟩; refine ⟨_, rfl, ?_⟩; have n0_ := am (Kd.R_reok rfl hy0 (fun k_ e_ => HO216.out.1 k_ e_)); have n1_ := am (Kd.R_mono (ok' := fun k_ => True) (Kd.R_keptB ((Kd.R_apart' HO219.out (Kd.R_typed HO216.out) (by decide))) hkp (fun k_ hk_ hs_ => (hk_.2) hs_)) (fun k_ hk_ => trivial)); have n2_ := am (hb); clear HO216; clear HO219; clear HB; have HO216 := n0_; have HO219 := n1_; have HB := n2_; clear n0_ n1_ n2_; (try clear hb); (try clear hkp); (try clear hy0)) | ((with_reducible refine gate_callee (f := 105) rfl ?_); refine goesL_ (some 28) rfl rfl Tryz.func105 (by kernel_rfl) rfl #[.slice A0 l0.length c0, .slice Ao12 t220.length co12, .slice Ao14 t221.length co14] rfl (by (try simp only [List.map_toArray, List.map_cons, List.map_nil]); first | done | (rw [show t220.length = t217.length from (Kd.R_reads' HO219.out).1.symm, show t221.length = t213.length from (Kd.R_reads' HO216.out).1.symm] <;> rfl) | rfl | (simp only [List.length_drop, List.length_take]; rfl)) ?_; (with_reducible refine (pattern_lengths.calls _ _ l0 _ _ t220 _ _ t221 t222 _ (cq HR0) HC0.out ?side3 ?side4 ?side5 ?side6 (Glob.below HG.out bq) A9.out).mono ?_); (case side3 => repeat (first | exact (Kd.R_reads' HO219.out).2.2 | (with_reducible refine Kd.C_alloc ?_ _) | (with_reducible refine Kd.C_drewN ?_ _) | (with_reducible refine Kd.C_drew ?_))); (case side4 => rw [show t220.length = t217.length from (Kd.R_reads' HO219.out).1.symm]; exact (Kd.R_reads' HO219.out).2.1); (case side5 => repeat (first | exact (Kd.R_reads' HO216.out).2.2 | (with_reducible refine Kd.C_alloc ?_ _) | (with_reducible refine Kd.C_drewN ?_ _) | (with_reducible refine Kd.C_drew ?_))); (case side6 => rw [show t221.length = t213.length from (Kd.R_reads' HO216.out).1.symm]; exact (Kd.R_reads' HO216.out).2.1); rintro e w16 ⟨v223, rfl, ho0, hb⟩; refine ⟨_, rfl, ?_⟩; have HO224 := am (Kd.R_lower (Kd.R_new' ho0 (Kd.R_lt (rR HO216))) (below_size bq)); replace HO216 := am (Kd.R_elder' (rR HO216) (Kd.R_base ho0) hb); replace HO219 := am (Kd.R_below (rR HO219) hb); replace HB := bs hb; (try clear hb); (try clear ho0)))
  go_ret
  exact ⟨_, eq', by (with_reducible repeat (first | apply Kd.R_alloc | apply Kd.R_drewN | apply Kd.R_drew)); exact Kd.R_mono HO224.out (fun _ hk => trivial), bq⟩
 replace c5 := Bool.eq_false_iff.mpr c5
 subst c5
 rw [if_neg nf] at H
 obtain rfl := Option.some.inj H
 go_enter Tryz.func101, Tryz.ntmps101
 go_wp2_with (first | ((with_reducible refine gate_callee (f := 104) rfl ?_); refine gL (some 14) Tryz.func104 #[.slice A0 l0.length c0, .slice A1 l1.length c1, .string a2] ?_; (with_reducible refine (pattern_read.calls _ _ l0 _ _ l1 a2 t213 false _ (cd HR0) HC0.out (cd HR1) HC1.out (Glob.below HG.out bq) A4.out).mono ?_); rintro e w17 ⟨v215, rfl, ho0, hb⟩; refine ⟨_, rfl, ?_⟩; have HO216 := am (Kd.R_lower ho0 (below_size bq)); replace HB := bs hb; (try clear hb); (try clear ho0)))
 go_ret
 exact ⟨_, eq', by first | exact Kd.R_nil _ _ _ _ _ | exact Kd.N_nil _ _ _ _ _ | exact Kd.V_nil _ _ _ _ _ | exact Kd.Q_nil _ _ _ _ _ | exact Kd.S_nil _ _ _ _ _, bq⟩
theorem rewrite_follows.calls (k : Nat) (A0 : Option Addr) (c0 : Nat) (l0 : List (S48)) (a1_0 : Int) (a1_1 : ByteArray) (A1_2 : Option Addr) (c1_2 : Nat) (l1_2 : List (S91)) (A1_3 : Option Addr) (c1_3 : Nat) (l1_3 : List (S91)) (a1_4 : Bool) (a1_5 : Bool) (a2 : ByteArray) (r : Bool) (w : World) (hr0 : Kd.C k48 w A0 l0.length l0) (hc0 : l0.length ≤ c0) (hr1_2 : Kd.C k91 w A1_2 l1_2.length l1_2) (hc1_2 : l1_2.length ≤ c1_2) (hr1_3 : Kd.C k91 w A1_3 l1_3.length l1_3) (hc1_3 : l1_3.length ≤ c1_3) (hG : Glob w) (h : rewrite_follows.f k l0 a1_0 a1_1 l1_2 l1_3 a1_4 a1_5 a2 = some r) :
  Calls Tryz.prog 92 #[.slice A0 l0.length c0, .agg #[.int .i32 a1_0, .string a1_1, .slice A1_2 l1_2.length c1_2, .slice A1_3 l1_3.length c1_3, .bool a1_4, .bool a1_5], .string a2] w fun e w' => e = .returned (.bool r) ∧ Below w.heap.size w w' := by
 have HG := am hG
 clear hG
 have hu89 := Tryz.underlying89
 have HR0 := am hr0
 have HC0 := am hc0
 clear hr0 hc0
 have HR1_2 := am hr1_2
 have HC1_2 := am hc1_2
 clear hr1_2 hc1_2
 have HR1_3 := am hr1_3
 have HC1_3 := am hc1_3
 clear hr1_3 hc1_3
 have HB := am (Below.refl w.heap.size w)
 have H : (if a1_4 = true then ((pattern_Matches.f l0 l1_2 a2).bind fun t226 => (some t226)) else ((pattern_Suffixes.f k l0 l1_2 a2).bind fun t227 => (some (decide ((t227.length : Int) > 0))))) = some r := h
 clear h
 by_cases c4 : a1_4 = true
 ·subst c4
  rw [if_pos rfl] at H
  replace H := Option.bind_eq_some_iff.mp H
  obtain ⟨t226, A50, H⟩ := H
  (try dsimp only at H)
  have A5 := am A50
  clear A50
  obtain rfl := Option.some.inj H
  go_enter Tryz.func92, Tryz.ntmps92
  go_wp2_with (first | ((with_reducible refine gate_dst (N := 4) rfl ?_); refine bx 4 #[.int .i32 a1_0, .string a1_1, .slice A1_2 l1_2.length c1_2, .slice A1_3 l1_3.length c1_3, .bool true, .bool a1_5] 89 ?_; intro gb225 hg w6 hbox hb; have BK225 := am hbox; have GE225 := sz hg; replace HB := bs hb; clear hb hbox hg; obtain ⟨zaa, zab, zac, zad, zae, zaf, zag, zah, zai, zaj, zak, zal⟩ := bc6 BK225) | ((with_reducible refine gate_callee (f := 100) rfl ?_); refine gL (some 13) Tryz.func100 #[.slice A0 l0.length c0, .slice A1_2 l1_2.length c1_2, .string a2] ?_; (with_reducible refine (pattern_Matches.calls _ _ l0 _ _ l1_2 a2 t226 _ (cq HR0) HC0.out (cq HR1_2) HC1_2.out (Glob.below HG.out bq) A5.out).mono ?_); rintro e w8 ⟨rfl, hb⟩; refine ⟨_, rfl, ?_⟩; replace BK225 := bk BK225 hb; replace HB := bs hb; (try clear hb)))
  go_ret
  exact ⟨eq', bq⟩
 replace c4 := Bool.eq_false_iff.mpr c4
 subst c4
 rw [if_neg nf] at H
 replace H := Option.bind_eq_some_iff.mp H
 obtain ⟨t227, A90, H⟩ := H
 (try dsimp only at H)
 have A9 := am A90
 clear A90
 obtain rfl := Option.some.inj H
 go_enter Tryz.func92, Tryz.ntmps92
 go_wp2_with (first | ((with_reducible refine gate_dst (N := 4) rfl ?_); refine bx 4 #[.int .i32 a1_0, .string a1_1, .slice A1_2 l1_2.length c1_2, .slice A1_3 l1_3.length c1_3, .bool false, .bool a1_5] 89 ?_; intro gb225 hg w10 hbox hb; have BK225 := am hbox; have GE225 := sz hg; replace HB := bs hb; clear hb hbox hg; obtain ⟨zam, zan, zao, zap, zaq, zar, zas, zat, zau, zav, zaw, zax⟩ := bc6 BK225) | ((with_reducible refine gate_callee (f := 101) rfl ?_); refine gL (some 18) Tryz.func101 #[.slice A0 l0.length c0, .slice A1_2 l1_2.length c1_2, .string a2] ?_; (with_reducible refine (pattern_Suffixes.calls k _ _ l0 _ _ l1_2 a2 t227 _ (cq HR0) HC0.out (cq HR1_2) HC1_2.out (Glob.below HG.out bq) A9.out).mono ?_); rintro e w12 ⟨v228, rfl, ho0, hb⟩; refine ⟨_, rfl, ?_⟩; have HO229 := am (Kd.R_lower ho0 (below_size bq)); replace BK225 := bk BK225 hb; replace HB := bs hb; (try clear hb); (try clear ho0); obtain ⟨Ao13, co13, eo13⟩ := Kd.R_slice HO229.out; subst eo13))
 go_ret
 exact ⟨eq', bq⟩
theorem pattern_Prefixes.calls (A0 : Option Addr) (c0 : Nat) (l0 : List (S48)) (A1 : Option Addr) (c1 : Nat) (l1 : List (S91)) (a2 : ByteArray) (r : List Int) (w : World) (hr0 : Kd.C k48 w A0 l0.length l0) (hc0 : l0.length ≤ c0) (hr1 : Kd.C k91 w A1 l1.length l1) (hc1 : l1.length ≤ c1) (hG : Glob w) (h : pattern_Prefixes.f l0 l1 a2 = some r) :
  Calls Tryz.prog 102 #[.slice A0 l0.length c0, .slice A1 l1.length c1, .string a2] w fun e w' => ∃ v0_ : Value, e = .returned (v0_) ∧ Kd.R (Kd.int .i64) 3 w' w.heap.size (fun _ => True) v0_ r ∧ Below w.heap.size w w' := by
 have HG := am hG
 clear hG
 have HR0 := am hr0
 have HC0 := am hc0
 clear hr0 hc0
 have HR1 := am hr1
 have HC1 := am hc1
 clear hr1 hc1
 have HB := am (Below.refl w.heap.size w)
 have H : ((pattern_read.f l0 l1 a2).bind fun bt230 => (if bt230.2 = true then ((pattern_lengths.f l0 l1 bt230.1).bind fun t234 => (some t234)) else (some ([] : List Int)))) = some r := h
 clear h
 replace H := Option.bind_eq_some_iff.mp H
 obtain ⟨⟨t230, t231⟩, A40, H⟩ := H
 (try dsimp only at H)
 have A4 := am A40
 clear A40
 by_cases c5 : t231 = true
 ·subst c5
  rw [if_pos rfl] at H
  replace H := Option.bind_eq_some_iff.mp H
  obtain ⟨t234, A60, H⟩ := H
  (try dsimp only at H)
  have A6 := am A60
  clear A60
  obtain rfl := Option.some.inj H
  go_enter Tryz.func102, Tryz.ntmps102
  go_wp2_with (first | ((with_reducible refine gate_callee (f := 104) rfl ?_); refine gL (some 13) Tryz.func104 #[.slice A0 l0.length c0, .slice A1 l1.length c1, .string a2] ?_; (with_reducible refine (pattern_read.calls _ _ l0 _ _ l1 a2 t230 true _ (cd HR0) HC0.out (cd HR1) HC1.out (Glob.below HG.out bq) A4.out).mono ?_); rintro e w7 ⟨v232, rfl, ho0, hb⟩; refine ⟨_, rfl, ?_⟩; have HO233 := am (Kd.R_lower ho0 (below_size bq)); replace HB := bs hb; (try clear hb); (try clear ho0); obtain ⟨Ao8, co8, eo8⟩ := Kd.R_slice HO233.out; subst eo8) | ((with_reducible refine gate_callee (f := 105) rfl ?_); refine gL (some 21) Tryz.func105 #[.slice A0 l0.length c0, .slice A1 l1.length c1, .slice Ao8 t230.length co8] ?_; (with_reducible refine (pattern_lengths.calls _ _ l0 _ _ l1 _ _ t230 t234 _ (cq HR0) HC0.out (cq HR1) HC1.out ?side5 ?side6 (Glob.below HG.out bq) A6.out).mono ?_); (case side5 => repeat (first | exact (Kd.R_reads' HO233.out).2.2 | (with_reducible refine Kd.C_alloc ?_ _) | (with_reducible refine Kd.C_drewN ?_ _) | (with_reducible refine Kd.C_drew ?_))); (case side6 => exact (Kd.R_reads' HO233.out).2.1); rintro e w9 ⟨v235, rfl, ho0, hb⟩; refine ⟨_, rfl, ?_⟩; have HO236 := am (Kd.R_lower (Kd.R_new' ho0 (Kd.R_lt (rR HO233))) (below_size bq)); replace HO233 := am (Kd.R_elder' (rR HO233) (Kd.R_base ho0) hb); replace HB := bs hb; (try clear hb); (try clear ho0)))
  go_ret
  exact ⟨_, eq', by (with_reducible repeat (first | apply Kd.R_alloc | apply Kd.R_drewN | apply Kd.R_drew)); exact Kd.R_mono HO236.out (fun _ hk => trivial), bq⟩
 replace c5 := Bool.eq_false_iff.mpr c5
 subst c5
 rw [if_neg nf] at H
 obtain rfl := Option.some.inj H
 go_enter Tryz.func102, Tryz.ntmps102
 go_wp2_with (first | ((with_reducible refine gate_callee (f := 104) rfl ?_); refine gL (some 13) Tryz.func104 #[.slice A0 l0.length c0, .slice A1 l1.length c1, .string a2] ?_; (with_reducible refine (pattern_read.calls _ _ l0 _ _ l1 a2 t230 false _ (cd HR0) HC0.out (cd HR1) HC1.out (Glob.below HG.out bq) A4.out).mono ?_); rintro e w10 ⟨v232, rfl, ho0, hb⟩; refine ⟨_, rfl, ?_⟩; have HO233 := am (Kd.R_lower ho0 (below_size bq)); replace HB := bs hb; (try clear hb); (try clear ho0)))
 go_ret
 exact ⟨_, eq', by first | exact Kd.R_nil _ _ _ _ _ | exact Kd.N_nil _ _ _ _ _ | exact Kd.V_nil _ _ _ _ _ | exact Kd.Q_nil _ _ _ _ _ | exact Kd.S_nil _ _ _ _ _, bq⟩
theorem rewrite_precedes.calls (A0 : Option Addr) (c0 : Nat) (l0 : List (S48)) (a1_0 : Int) (a1_1 : ByteArray) (A1_2 : Option Addr) (c1_2 : Nat) (l1_2 : List (S91)) (A1_3 : Option Addr) (c1_3 : Nat) (l1_3 : List (S91)) (a1_4 : Bool) (a1_5 : Bool) (a2 : ByteArray) (r : Bool) (w : World) (hr0 : Kd.C k48 w A0 l0.length l0) (hc0 : l0.length ≤ c0) (hr1_2 : Kd.C k91 w A1_2 l1_2.length l1_2) (hc1_2 : l1_2.length ≤ c1_2) (hr1_3 : Kd.C k91 w A1_3 l1_3.length l1_3) (hc1_3 : l1_3.length ≤ c1_3) (hG : Glob w) (h : rewrite_precedes.f l0 a1_0 a1_1 l1_2 l1_3 a1_4 a1_5 a2 = some r) :
  Calls Tryz.prog 93 #[.slice A0 l0.length c0, .agg #[.int .i32 a1_0, .string a1_1, .slice A1_2 l1_2.length c1_2, .slice A1_3 l1_3.length c1_3, .bool a1_4, .bool a1_5], .string a2] w fun e w' => e = .returned (.bool r) ∧ Below w.heap.size w w' := by
 have HG := am hG
 clear hG
 have hu89 := Tryz.underlying89
 have HR0 := am hr0
 have HC0 := am hc0
 clear hr0 hc0
 have HR1_2 := am hr1_2
 have HC1_2 := am hc1_2
 clear hr1_2 hc1_2
 have HR1_3 := am hr1_3
 have HC1_3 := am hc1_3
 clear hr1_3 hc1_3
 have HB := am (Below.refl w.heap.size w)
 have H : (if a1_5 = true then ((pattern_Matches.f l0 l1_3 a2).bind fun t238 => (some t238)) else ((pattern_Prefixes.f l0 l1_3 a2).bind fun t239 => (some (decide ((t239.length : Int) > 0))))) = some r := h
 clear h
 by_cases c4 : a1_5 = true
 ·subst c4
  rw [if_pos rfl] at H
  replace H := Option.bind_eq_some_iff.mp H
  obtain ⟨t238, A50, H⟩ := H
  (try dsimp only at H)
  have A5 := am A50
  clear A50
  obtain rfl := Option.some.inj H
  go_enter Tryz.func93, Tryz.ntmps93
  go_wp2_with (first | ((with_reducible refine gate_dst (N := 4) rfl ?_); refine bx 4 #[.int .i32 a1_0, .string a1_1, .slice A1_2 l1_2.length c1_2, .slice A1_3 l1_3.length c1_3, .bool a1_4, .bool true] 89 ?_; intro gb237 hg w6 hbox hb; have BK237 := am hbox; have GE237 := sz hg; replace HB := bs hb; clear hb hbox hg; obtain ⟨zaa, zab, zac, zad, zae, zaf, zag, zah, zai, zaj, zak, zal⟩ := bc6 BK237) | ((with_reducible refine gate_callee (f := 100) rfl ?_); refine gL (some 13) Tryz.func100 #[.slice A0 l0.length c0, .slice A1_3 l1_3.length c1_3, .string a2] ?_; (with_reducible refine (pattern_Matches.calls _ _ l0 _ _ l1_3 a2 t238 _ (cq HR0) HC0.out (cq HR1_3) HC1_3.out (Glob.below HG.out bq) A5.out).mono ?_); rintro e w8 ⟨rfl, hb⟩; refine ⟨_, rfl, ?_⟩; replace BK237 := bk BK237 hb; replace HB := bs hb; (try clear hb)))
  go_ret
  exact ⟨eq', bq⟩
 replace c4 := Bool.eq_false_iff.mpr c4
 subst c4
 rw [if_neg nf] at H
 replace H := Option.bind_eq_some_iff.mp H
 obtain ⟨t239, A90, H⟩ := H
 (try dsimp only at H)
 have A9 := am A90
 clear A90
 obtain rfl := Option.some.inj H
 go_enter Tryz.func93, Tryz.ntmps93
 go_wp2_with (first | ((with_reducible refine gate_dst (N := 4) rfl ?_); refine bx 4 #[.int .i32 a1_0, .string a1_1, .slice A1_2 l1_2.length c1_2, .slice A1_3 l1_3.length c1_3, .bool a1_4, .bool false] 89 ?_; intro gb237 hg w10 hbox hb; have BK237 := am hbox; have GE237 := sz hg; replace HB := bs hb; clear hb hbox hg; obtain ⟨zam, zan, zao, zap, zaq, zar, zas, zat, zau, zav, zaw, zax⟩ := bc6 BK237) | ((with_reducible refine gate_callee (f := 102) rfl ?_); refine gL (some 18) Tryz.func102 #[.slice A0 l0.length c0, .slice A1_3 l1_3.length c1_3, .string a2] ?_; (with_reducible refine (pattern_Prefixes.calls _ _ l0 _ _ l1_3 a2 t239 _ (cq HR0) HC0.out (cq HR1_3) HC1_3.out (Glob.below HG.out bq) A9.out).mono ?_); rintro e w12 ⟨v240, rfl, ho0, hb⟩; refine ⟨_, rfl, ?_⟩; have HO241 := am (Kd.R_lower ho0 (below_size bq)); replace BK237 := bk BK237 hb; replace HB := bs hb; (try clear hb); (try clear ho0); obtain ⟨Ao13, co13, eo13⟩ := Kd.R_slice HO241.out; subst eo13))
 go_ret
 exact ⟨eq', bq⟩
def rewrite_Sites.T10 : Bool × List (List Nat × List Nat) := (true, [([], []), ([], []), ([1], [1]), ([0, 2], [0, 2]), ([3], [3]), ([4], [4]), ([4], [4]), ([5, 6, 4], [4, 5, 6]), ([7, 4], [4, 7]), ([4], [4]), ([9, 4], [4, 9]), ([8, 10, 4], [4, 8, 10]), ([4, 11], [4, 11])])
def rewrite_Sites.B10 : List Nat := [0, 0, 2, 7, 15, 31, 31, 127, 255, 31, 543, 2047, 4095]
theorem rewrite_Sites.tab10 : rtab .any (opsOf Tryz.f75 10) = rewrite_Sites.T10 := by kernel_rfl
theorem rewrite_Sites.bits10 : waitsOk rewrite_Sites.T10.2 rewrite_Sites.B10 = true := by kernel_rfl
def rewrite_Sites.T12 : Bool × List (List Nat × List Nat) := (true, [([], []), ([], []), ([], []), ([], []), ([2, 3], [2, 3]), ([4], [4]), ([0, 1, 5], [0, 1, 5]), ([6, 6], [6]), ([7], [7]), ([7], [7]), ([7], [7]), ([7], [7]), ([10, 11, 7], [7, 10, 11]), ([12, 7], [7, 12]), ([8, 9, 13, 7, 7], [7, 8, 9, 13]), ([7, 14], [7, 14])])
def rewrite_Sites.B12 : List Nat := [0, 0, 0, 0, 12, 28, 63, 127, 255, 255, 255, 255, 3327, 7423, 16383, 32767]
theorem rewrite_Sites.tab12 : rtab .any (opsOf Tryz.f75 12) = rewrite_Sites.T12 := by kernel_rfl
theorem rewrite_Sites.bits12 : waitsOk rewrite_Sites.T12.2 rewrite_Sites.B12 = true := by kernel_rfl
theorem rewrite_Sites.calls (k : Nat) (A0 : Option Addr) (c0 : Nat) (l0 : List (S48)) (a1_0 : Int) (a1_1 : ByteArray) (A1_2 : Option Addr) (c1_2 : Nat) (l1_2 : List (S91)) (A1_3 : Option Addr) (c1_3 : Nat) (l1_3 : List (S91)) (a1_4 : Bool) (a1_5 : Bool) (a2 : ByteArray) (r : List Int) (w : World) (hr0 : Kd.C k48 w A0 l0.length l0) (hc0 : l0.length ≤ c0) (hr1_2 : Kd.C k91 w A1_2 l1_2.length l1_2) (hc1_2 : l1_2.length ≤ c1_2) (hr1_3 : Kd.C k91 w A1_3 l1_3.length l1_3) (hc1_3 : l1_3.length ≤ c1_3) (hG : Glob w) (h : rewrite_Sites.f k l0 a1_0 a1_1 l1_2 l1_3 a1_4 a1_5 a2 = some r) :
  Calls Tryz.prog 75 #[.slice A0 l0.length c0, .agg #[.int .i32 a1_0, .string a1_1, .slice A1_2 l1_2.length c1_2, .slice A1_3 l1_3.length c1_3, .bool a1_4, .bool a1_5], .string a2] w fun e w' => ∃ v0_ : Value, e = .returned (v0_) ∧ Kd.R (Kd.int .i64) 3 w' w.heap.size (fun _ => True) v0_ r ∧ Below w.heap.size w w' := by
 have HG := am hG
 clear hG
 have hu89 := Tryz.underlying89
 have HR0 := am hr0
 have HC0 := am hc0
 clear hr0 hc0
 have HR1_2 := am hr1_2
 have HC1_2 := am hc1_2
 clear hr1_2 hc1_2
 have HR1_3 := am hr1_3
 have HC1_3 := am hc1_3
 clear hr1_3 hc1_3
 have HB := am (Below.refl w.heap.size w)
 have H : ((rewrite_Valid.f k l0 a1_0 a1_1 l1_2 l1_3 a1_4 a1_5).bind fun t243 => (if t243 = true then ((rewrite_letters_isWord.f l0 a2).bind fun t244 => (rewrite_Sites.j0 k l0 a2 (!t244) a1_0 a1_1 l1_2 l1_3 a1_4 a1_5)) else (rewrite_Sites.j0 k l0 a2 true a1_0 a1_1 l1_2 l1_3 a1_4 a1_5))) = some r := h
 clear h
 have HC4 := am H
 clear H
 go_enter Tryz.func75, Tryz.ntmps75
 go_upto_region 1 with (first | ((with_reducible refine gate_dst (N := 4) rfl ?_); (try (refine gate_guard (by rfl) ?_; dsimp only)); refine bx 4 #[.int .i32 a1_0, .string a1_1, .slice A1_2 l1_2.length c1_2, .slice A1_3 l1_3.length c1_3, .bool a1_4, .bool a1_5] 89 ?_; intro gb242 hg w5 hbox hb; have BK242 := am hbox; have GE242 := sz hg; replace HB := bs hb; clear hb hbox hg))
 (try simp only [Act.put, List.setIfInBounds_toArray, List.set_cons_zero, List.set_cons_succ])
 apply wp_scope_straight
 go_upto_region 1 with (fail)
 go_cut [20] (fun v20 wc => ∃ (kq : Nat) (x20_3 : Bool), v20 = .bool x20_3 ∧ Aside0 (rewrite_Sites.j0 kq l0 a2 x20_3 a1_0 a1_1 l1_2 l1_3 a1_4 a1_5 = some r) ∧ Aside0 (kq ≤ k) ∧ Aside0 (wc.heap[gb242]? = some (.cells #[.int .i32 a1_0, .string a1_1, (.slice A1_2 l1_2.length c1_2), (.slice A1_3 l1_3.length c1_3), .bool a1_4, .bool a1_5] 89 (0, 0))) ∧ Aside0 (Below w.heap.size w wc))
 case first =>
  have H := HC4.out
  clear HC4
  replace H := Option.bind_eq_some_iff.mp H
  obtain ⟨t243, A60, H⟩ := H
  (try dsimp only at H)
  have A6 := am A60
  clear A60
  by_cases c7 : t243 = true
  ·subst c7
   rw [if_pos rfl] at H
   replace H := Option.bind_eq_some_iff.mp H
   obtain ⟨t244, A80, H⟩ := H
   (try dsimp only at H)
   have A8 := am A80
   clear A80
   have H' := am H
   clear H
   obtain ⟨zaa, zab, zac, zad, zae, zaf, zag, zah, zai, zaj, zak, zal⟩ := bc6 BK242
   go_wp2_with (first | ((with_reducible refine gate_callee (f := 32) rfl ?_); refine gL (some 13) Tryz.func32 #[.slice A0 l0.length c0, .agg #[.int .i32 a1_0, .string a1_1, .slice A1_2 l1_2.length c1_2, .slice A1_3 l1_3.length c1_3, .bool a1_4, .bool a1_5]] ?_; (with_reducible refine (rewrite_Valid.calls k _ _ l0 a1_0 a1_1 _ _ l1_2 _ _ l1_3 a1_4 a1_5 true _ (cq HR0) HC0.out (cq HR1_2) HC1_2.out (cq HR1_3) HC1_3.out (Glob.below HG.out bq) A6.out).mono ?_); rintro e w10 ⟨rfl, hb⟩; refine ⟨_, rfl, ?_⟩; replace BK242 := bk BK242 hb; replace HB := bs hb; (try clear hb)) | (go_at_call 53; (with_reducible refine (rewrite_letters_isWord.calls _ _ l0 a2 t244 _ (cq HR0) HC0.out (Glob.below HG.out bq) A8.out).mono ?_); rintro e w11 ⟨rfl, hb⟩; replace BK242 := bk BK242 hb; replace HB := bs hb; (try clear hb)))
   go_meet
   case rel => exact ⟨_, (!t244), rq, H', ⟨by first | omega | exact Nat.le_refl _⟩, ⟨bd BK242⟩, ⟨bq⟩⟩
  replace c7 := Bool.eq_false_iff.mpr c7
  subst c7
  rw [if_neg nf] at H
  have H' := am H
  clear H
  obtain ⟨zam, zan, zao, zap, zaq, zar, zas, zat, zau, zav, zaw, zax⟩ := bc6 BK242
  go_wp2_with (first | ((with_reducible refine gate_callee (f := 32) rfl ?_); refine gL (some 13) Tryz.func32 #[.slice A0 l0.length c0, .agg #[.int .i32 a1_0, .string a1_1, .slice A1_2 l1_2.length c1_2, .slice A1_3 l1_3.length c1_3, .bool a1_4, .bool a1_5]] ?_; (with_reducible refine (rewrite_Valid.calls k _ _ l0 a1_0 a1_1 _ _ l1_2 _ _ l1_3 a1_4 a1_5 false _ (cq HR0) HC0.out (cq HR1_2) HC1_2.out (cq HR1_3) HC1_3.out (Glob.below HG.out bq) A6.out).mono ?_); rintro e w13 ⟨rfl, hb⟩; refine ⟨_, rfl, ?_⟩; replace BK242 := bk BK242 hb; replace HB := bs hb; (try clear hb)))
  go_meet
  case rel => exact ⟨_, (true), rq, H', ⟨by first | omega | exact Nat.le_refl _⟩, ⟨bd BK242⟩, ⟨bq⟩⟩
 case rest =>
  clear HC4
  obtain ⟨kq, x20_3, rfl, HA, HJ3, BK242, HB⟩ := hcut
  cases kq with
  | zero => exact absurd HA.out (by simp [rewrite_Sites.j0])
  | succ kj3 =>
   have H := HA.out
   clear HA
   simp only [rewrite_Sites.j0] at H
   by_cases c14 : x20_3 = true
   ·subst c14
    rw [if_pos rfl] at H
    obtain rfl := Option.some.inj H
    go_wp2
    go_ret
    exact ⟨_, eq', by first | exact Kd.R_nil _ _ _ _ _ | exact Kd.N_nil _ _ _ _ _ | exact Kd.V_nil _ _ _ _ _ | exact Kd.Q_nil _ _ _ _ _ | exact Kd.S_nil _ _ _ _ _, bq⟩
   replace c14 := Bool.eq_false_iff.mpr c14
   subst c14
   rw [if_neg nf] at H
   by_cases c15 : a2.size ≤ 70368744177664
   ·rw [if_pos c15] at H
    have c15b0 := eq_true c15
    have c15b1 : decide (a2.size ≤ 70368744177664) = true := decide_eq_true c15
    clear c15
    obtain ⟨y245, hy245⟩ : ∃ y_ : List Int, y_ = (rns a2) := ⟨_, rfl⟩
    replace H : (rewrite_Sites.l0 kj3 l0 y245 ([] : List Int) 0 a1_0 a1_1 l1_2 l1_3 a1_4 a1_5) = some r := by first | (rw [hy245]; with_reducible exact H) | (have H2_ := (Option.bind_some _ _).symm.trans H; rw [hy245]; with_reducible exact H2_) | (have H2_ := (Option.bind_some _ _).symm.trans H; with_reducible exact H2_) | with_reducible exact H | (rw [hy245]; exact H) | exact H
    have Ny245 := am hy245
    clear hy245
    have H' := am H
    clear H
    go_wp2_with (first | ((with_reducible refine gate_dst (N := 22) rfl ?_); (try (refine gate_guard (by rfl) ?_; dsimp only)); refine Kd.R_runes _ 21 rfl (N := 22) rfl 9 164 _ rfl a2 rfl Tryz.underlying9 Tryz.underlying164 Tryz.underlying21 (oq) (ok := fun _ => True) (okp := fun _ => True) (fun _ hk => hk) trivial (Below.refl _ _) (Nat.le_refl _) ?_; intro v246 w16 ho17 hb hg_ hnew_; clear hg_ hnew_; (first | rw [← Ny245.out] at ho17 | (simp only [Int.reduceToNat] at ho17; rw [← Ny245.out] at ho17)); have HO247 := am (Kd.R_lower ho17 (below_size bq)); replace BK242 := bk BK242 hb; replace HB := bs hb; clear hb ho17))
    apply wp_label
    go_wp2
    go_loopg [8, 9] kj3 (fun kq v8 v9 w' => ∃ (x8_2 : List Int) (x9_2 : Int), v9 = .int .i64 x9_2 ∧ Aside0 (rewrite_Sites.l0 kq l0 y245 x8_2 x9_2 a1_0 a1_1 l1_2 l1_3 a1_4 a1_5 = some r) ∧ Aside0 (kq ≤ kj3) ∧ Aside0 (Kd.R (Kd.int .i32) 21 w' w.heap.size (fun _ => True) v246 y245) ∧ Aside0 (Kd.R (Kd.int .i64) 3 w' w.heap.size (fun _ => True) v8 x8_2) ∧ Aside0 (w'.heap[gb242]? = some (.cells #[.int .i32 a1_0, .string a1_1, (.slice A1_2 l1_2.length c1_2), (.slice A1_3 l1_3.length c1_3), .bool a1_4, .bool a1_5] 89 (0, 0))) ∧ Aside0 (Below w.heap.size w w'))
    case atStart => exact ⟨(([] : List Int)), (0), rq, H', ⟨Nat.le_refl _⟩, ⟨rR HO247⟩, ⟨by first | exact Kd.R_nil _ _ _ _ _ | exact Kd.N_nil _ _ _ _ _ | exact Kd.V_nil _ _ _ _ _ | exact Kd.Q_nil _ _ _ _ _ | exact Kd.S_nil _ _ _ _ _⟩, ⟨bd BK242⟩, ⟨bq⟩⟩
    case round =>
     clear H'
     clear c15b0 c15b1
     obtain ⟨x8_2, x9_2, rfl, HA, HK2, HO_7, HO_8, BK242, HB⟩ := hrel
     cases gk with
     | zero => exact absurd HA.out (by simp [rewrite_Sites.l0])
     | succ k2 =>
      have H := HA.out
      clear HA
      simp only [rewrite_Sites.l0] at H
      by_cases c18 : x9_2 ≤ (y245.length : Int)
      ·rw [if_pos c18] at H
       have c18b0 : decide (x9_2 ≤ (y245.length : Int)) = true := decide_eq_true c18
       clear c18
       have HC19 := am H
       clear H
       obtain ⟨Ao20, co20, eo20⟩ := Kd.R_slice HO_7.out
       subst eo20
       obtain ⟨zay, zaz, zba, zbb, zbc, zbd, zbe, zbf, zbg, zbh, zbi, zbj⟩ := bc6 BK242
       go_upto_if 32 with (fail)
       go_cut [10] (fun v10 wc => ∃ (kq : Nat) (x10_18 : Int), v10 = .int .i64 x10_18 ∧ Aside0 (rewrite_Sites.j2 kq l0 y245 x8_2 x9_2 x10_18 a1_0 a1_1 l1_2 l1_3 a1_4 a1_5 = some r) ∧ Aside0 (kq ≤ k2) ∧ Aside0 (Kd.R (Kd.int .i32) 21 wc w.heap.size (fun _ => True) (.slice Ao20 y245.length co20) y245) ∧ Aside0 (Kd.R (Kd.int .i64) 3 wc w.heap.size (fun _ => True) u8 x8_2) ∧ Aside0 (wc.heap[gb242]? = some (.cells #[.int .i32 a1_0, .string a1_1, (.slice A1_2 l1_2.length c1_2), (.slice A1_3 l1_3.length c1_3), .bool a1_4, .bool a1_5] 89 (0, 0))) ∧ Aside0 (Below w.heap.size w wc))
       case first =>
        have H := HC19.out
        clear HC19
        by_cases c22 : a1_0 = 0
        ·rw [if_pos c22] at H
         have c22b0 : (a1_0 == 0) = true := beq_iff_eq.mpr c22
         have c22b1 : (a1_0 != 0) = false := bne_eq_false_iff_eq.mpr c22
         clear c22
         (first | rw [c22b0] | (simp only [i64_w, i32_w]; rw [c22b0]) | skip)
         have H' := am H
         clear H
         go_wp2
         go_meet
         case rel => exact ⟨_, (x9_2), rq, H', ⟨by have := HJ3.out; have := HK2.out; first | omega | exact Nat.le_refl _⟩, ⟨rR HO_7⟩, ⟨rR HO_8⟩, ⟨bd BK242⟩, ⟨bq⟩⟩
        rw [if_neg c22] at H
        have c22b0 : (a1_0 == 0) = false := beq_eq_false_iff_ne.mpr c22
        have c22b1 : (a1_0 != 0) = true := bne_iff_ne.mpr c22
        (first | rw [c22b0] | (simp only [i64_w, i32_w]; rw [c22b0]) | skip)
        by_cases c23 : x9_2 = (y245.length : Int)
        ·rw [if_pos c23] at H
         have c23b0 : (x9_2 == (y245.length : Int)) = true := beq_iff_eq.mpr c23
         have c23b1 : (x9_2 != (y245.length : Int)) = false := bne_eq_false_iff_eq.mpr c23
         clear c23
         have H' := am H
         clear H
         try go_wp2
         have n0_ := am (Kd.R_drew HO_7.out)
         have n1_ := am (Kd.R_drew HO_8.out)
         have n2_ := am (blk_drew BK242.out)
         have n3_ := am (below_drew1 HB.out)
         clear HO_7
         clear HO_8
         clear BK242
         clear HB
         have HO_7 := n0_
         have HO_8 := n1_
         have BK242 := n2_
         have HB := n3_
         clear n0_ n1_ n2_ n3_
         refine start_ (n := 13) (S := fun w' => True) (ds := []) (tf 13 0) (by kernel_rfl) rfl rfl trivial (fun hHeld => ?_); refine with_tabW rewrite_Sites.tab10 rewrite_Sites.bits10 (fun HT_ HW_ => ?_)
         generalize wr.drew = w24 at HO_7 HO_8 BK242 HB hHeld ⊢
         refine pu 0 33 (tf 13 1) ?_
         refine pu 1 34 (tf 13 2) ?_
         refine pu 2 35 (tf 13 3) ?_
         refine pu 3 36 (tf 13 4) ?_
         refine pu 4 37 (tf 13 5) ?_
         refine pv 5 38 (tf 13 6) ?_
         refine pv 6 39 (tf 13 7) ?_
         refine pv 7 40 (tf 13 8) ?_
         refine pv 8 41 (tf 13 9) ?_
         refine pv 9 42 (tf 13 10) ?_
         refine pv 10 43 (tf 13 11) ?_
         refine pv 11 44 (tf 13 12) ?_
         refine pu 12 45 (tf 13 13) ?_
         refine done_ (done_of HT_.out (by kernel_rfl)) ?_
         try go_wp2
         go_roundg k2
         case measure => have := HJ3.out; have := HK2.out; omega
         case rel => exact ⟨(x8_2), (wrap64 (x9_2 + 1)), rq, H', ⟨by have := HJ3.out; have := HK2.out; omega⟩, ⟨rR HO_7⟩, ⟨rR HO_8⟩, ⟨bd BK242⟩, ⟨bq⟩⟩
        rw [if_neg c23] at H
        have c23b0 : (x9_2 == (y245.length : Int)) = false := beq_eq_false_iff_ne.mpr c23
        have c23b1 : (x9_2 != (y245.length : Int)) = true := bne_iff_ne.mpr c23
        by_cases c25 : 0 ≤ x9_2
        ·rw [if_pos c25] at H
         have c25b0 : decide (0 ≤ x9_2) = true := decide_eq_true c25
         clear c25
         by_cases c26 : x9_2 < (y245.length : Int)
         ·rw [if_pos c26] at H
          have c26b0 : decide (x9_2 < (y245.length : Int)) = true := decide_eq_true c26
          clear c26
          by_cases c27 : (rd y245 x9_2) = a1_0
          ·rw [if_pos c27] at H
           have c27b0 : ((rd y245 x9_2) == a1_0) = true := beq_iff_eq.mpr c27
           have c27b1 : ((rd y245 x9_2) != a1_0) = false := bne_eq_false_iff_eq.mpr c27
           clear c27
           have H' := am H
           clear H
           try go_wp2
           have n0_ := am (Kd.R_drew HO_7.out)
           have n1_ := am (Kd.R_drew HO_8.out)
           have n2_ := am (blk_drew BK242.out)
           have n3_ := am (below_drew1 HB.out)
           clear HO_7
           clear HO_8
           clear BK242
           clear HB
           have HO_7 := n0_
           have HO_8 := n1_
           have BK242 := n2_
           have HB := n3_
           clear n0_ n1_ n2_ n3_
           have p248 : 0 ≤ (x9_2 : Int) := oq
           have q248 : x9_2 < (y245.length : Int) := oq
           obtain ⟨ad248, e248, hx248_0⟩ := Kd.at_int (Kd.R_reads' HO_7.out).2.2 x9_2 p248 q248
           cases e248
           replace p248 := eq_true p248
           replace q248 := eq_true q248
           refine start_ (n := 13) (S := fun w' => w'.cell? ⟨gb242, 0, none⟩ = some (.int .i32 a1_0) ∧ w'.cell? ⟨gb242, 1, none⟩ = some (.string a1_1) ∧ w'.cell? ⟨gb242, 2, none⟩ = some (.slice A1_2 l1_2.length c1_2) ∧ w'.cell? ⟨gb242, 3, none⟩ = some (.slice A1_3 l1_3.length c1_3) ∧ w'.cell? ⟨gb242, 4, none⟩ = some (.bool a1_4) ∧ w'.cell? ⟨gb242, 5, none⟩ = some (.bool a1_5) ∧ w'.cell? (ad248.add (x9_2).toNat) = some (.int .i32 (rd y245 x9_2))) (ds := []) (tf 13 0) (by kernel_rfl) rfl rfl ⟨(blk_cell BK242.out 0).trans rfl, (blk_cell BK242.out 1).trans rfl, (blk_cell BK242.out 2).trans rfl, (blk_cell BK242.out 3).trans rfl, (blk_cell BK242.out 4).trans rfl, (blk_cell BK242.out 5).trans rfl, hx248_0⟩ (fun hHeld => ?_); refine with_tabW rewrite_Sites.tab10 rewrite_Sites.bits10 (fun HT_ HW_ => ?_)
           generalize wr.drew = w28 at HO_7 HO_8 BK242 HB hx248_0 hHeld ⊢
           refine pu 0 33 (tf 13 1) ?_
           refine pu 1 34 (tf 13 2) ?_
           refine pu 2 35 (tf 13 3) ?_
           refine pu 3 36 (tf 13 4) ?_
           refine pu 4 37 (tf 13 5) ?_
           refine pu 5 38 (tf 13 6) ?_
           refine pu 6 39 (tf 13 7) ?_
           refine pu 7 40 (tf 13 8) ?_
           refine pu 9 42 #[true, true, true, true, true, true, true, true, false, true, false, false, false] ?_
           refine take_ (i := 8) (N := some 41) (v := ?_) (a' := ?_) (tf 13 10) rfl rfl (take_ofW HT_.out HW_.out (by kernel_rfl)) (fun _ _ _ h => h) (Or.inl ⟨by rfl, ?_⟩) hHeld ?_ ?_
           rotate_left
           ·rintro w' ⟨s0, s1, s2, s3, s4, s5, s6⟩
            go_simp
            with_reducible rfl
           rotate_left
           ·simp only [Act.put, List.setIfInBounds_toArray, List.set_cons_zero, List.set_cons_succ, i64_w, i32_w]
            rfl
           refine take_ (i := 10) (N := some 43) (v := ?_) (a' := ?_) (tf 13 11) rfl rfl (take_ofW HT_.out HW_.out (by kernel_rfl)) (fun _ _ _ h => h) (Or.inl ⟨by rfl, ?_⟩) hHeld ?_ ?_
           rotate_left
           ·rintro w' ⟨s0, s1, s2, s3, s4, s5, s6⟩
            go_simp
            with_reducible rfl
           rotate_left
           ·simp only [Act.put, List.setIfInBounds_toArray, List.set_cons_zero, List.set_cons_succ, i64_w, i32_w]
            rfl
           refine pu 11 44 (tf 13 12) ?_
           refine pu 12 45 (tf 13 13) ?_
           refine done_ (done_of HT_.out (by kernel_rfl)) ?_
           try go_wp2
           go_meet
           case rel => exact ⟨_, (wrap64 (x9_2 + 1)), rq, H', ⟨by have := HJ3.out; have := HK2.out; first | omega | exact Nat.le_refl _⟩, ⟨rR HO_7⟩, ⟨rR HO_8⟩, ⟨bd BK242⟩, ⟨bq⟩⟩
          rw [if_neg c27] at H
          have c27b0 : ((rd y245 x9_2) == a1_0) = false := beq_eq_false_iff_ne.mpr c27
          have c27b1 : ((rd y245 x9_2) != a1_0) = true := bne_iff_ne.mpr c27
          have H' := am H
          clear H
          try go_wp2
          have n0_ := am (Kd.R_drew HO_7.out)
          have n1_ := am (Kd.R_drew HO_8.out)
          have n2_ := am (blk_drew BK242.out)
          have n3_ := am (below_drew1 HB.out)
          clear HO_7
          clear HO_8
          clear BK242
          clear HB
          have HO_7 := n0_
          have HO_8 := n1_
          have BK242 := n2_
          have HB := n3_
          clear n0_ n1_ n2_ n3_
          have p248 : 0 ≤ (x9_2 : Int) := oq
          have q248 : x9_2 < (y245.length : Int) := oq
          obtain ⟨ad248, e248, hx248_0⟩ := Kd.at_int (Kd.R_reads' HO_7.out).2.2 x9_2 p248 q248
          cases e248
          replace p248 := eq_true p248
          replace q248 := eq_true q248
          refine start_ (n := 13) (S := fun w' => w'.cell? ⟨gb242, 0, none⟩ = some (.int .i32 a1_0) ∧ w'.cell? ⟨gb242, 1, none⟩ = some (.string a1_1) ∧ w'.cell? ⟨gb242, 2, none⟩ = some (.slice A1_2 l1_2.length c1_2) ∧ w'.cell? ⟨gb242, 3, none⟩ = some (.slice A1_3 l1_3.length c1_3) ∧ w'.cell? ⟨gb242, 4, none⟩ = some (.bool a1_4) ∧ w'.cell? ⟨gb242, 5, none⟩ = some (.bool a1_5) ∧ w'.cell? (ad248.add (x9_2).toNat) = some (.int .i32 (rd y245 x9_2))) (ds := []) (tf 13 0) (by kernel_rfl) rfl rfl ⟨(blk_cell BK242.out 0).trans rfl, (blk_cell BK242.out 1).trans rfl, (blk_cell BK242.out 2).trans rfl, (blk_cell BK242.out 3).trans rfl, (blk_cell BK242.out 4).trans rfl, (blk_cell BK242.out 5).trans rfl, hx248_0⟩ (fun hHeld => ?_); refine with_tabW rewrite_Sites.tab10 rewrite_Sites.bits10 (fun HT_ HW_ => ?_)
          generalize wr.drew = w29 at HO_7 HO_8 BK242 HB hx248_0 hHeld ⊢
          refine pu 0 33 (tf 13 1) ?_
          refine pu 1 34 (tf 13 2) ?_
          refine pu 2 35 (tf 13 3) ?_
          refine pu 3 36 (tf 13 4) ?_
          refine pu 4 37 (tf 13 5) ?_
          refine pu 5 38 (tf 13 6) ?_
          refine pu 6 39 (tf 13 7) ?_
          refine pu 7 40 (tf 13 8) ?_
          refine pu 9 42 #[true, true, true, true, true, true, true, true, false, true, false, false, false] ?_
          refine take_ (i := 8) (N := some 41) (v := ?_) (a' := ?_) (tf 13 10) rfl rfl (take_ofW HT_.out HW_.out (by kernel_rfl)) (fun _ _ _ h => h) (Or.inl ⟨by rfl, ?_⟩) hHeld ?_ ?_
          rotate_left
          ·rintro w' ⟨s0, s1, s2, s3, s4, s5, s6⟩
           go_simp
           with_reducible rfl
          rotate_left
          ·simp only [Act.put, List.setIfInBounds_toArray, List.set_cons_zero, List.set_cons_succ, i64_w, i32_w]
           rfl
          refine take_ (i := 10) (N := some 43) (v := ?_) (a' := ?_) (tf 13 11) rfl rfl (take_ofW HT_.out HW_.out (by kernel_rfl)) (fun _ _ _ h => h) (Or.inl ⟨by rfl, ?_⟩) hHeld ?_ ?_
          rotate_left
          ·rintro w' ⟨s0, s1, s2, s3, s4, s5, s6⟩
           go_simp
           with_reducible rfl
          rotate_left
          ·simp only [Act.put, List.setIfInBounds_toArray, List.set_cons_zero, List.set_cons_succ, i64_w, i32_w]
           rfl
          refine pu 11 44 (tf 13 12) ?_
          refine pu 12 45 (tf 13 13) ?_
          refine done_ (done_of HT_.out (by kernel_rfl)) ?_
          try go_wp2
          go_roundg k2
          case measure => have := HJ3.out; have := HK2.out; omega
          case rel => exact ⟨(x8_2), (wrap64 (x9_2 + 1)), rq, H', ⟨by have := HJ3.out; have := HK2.out; omega⟩, ⟨rR HO_7⟩, ⟨rR HO_8⟩, ⟨bd BK242⟩, ⟨bq⟩⟩
         rw [if_neg c26] at H
         exact absurd H (by simp)
        rw [if_neg c25] at H
        exact absurd H (by simp)
       case rest =>
        clear HC19 c18b0 zay zaz zba zbb zbc zbd zbe zbf zbg zbh zbi zbj
        obtain ⟨kq, x10_18, rfl, HA, HJ18, HO_7, HO_8, BK242, HB⟩ := hcut
        cases kq with
        | zero => exact absurd HA.out (by simp [rewrite_Sites.j2])
        | succ kj18 =>
         have H := HA.out
         clear HA
         simp only [rewrite_Sites.j2] at H
         by_cases c30 : 0 ≤ x9_2
         ·rw [if_pos c30] at H
          have c30b0 := eq_true c30
          have c30b1 : decide (0 ≤ x9_2) = true := decide_eq_true c30
          clear c30
          by_cases c31 : x9_2 ≤ (y245.length : Int)
          ·rw [if_pos c31] at H
           have c31b0 := eq_true c31
           have c31b1 : decide (x9_2 ≤ (y245.length : Int)) = true := decide_eq_true c31
           clear c31
           obtain ⟨y249, hy249⟩ : ∃ y_ : List Int, y_ = (y245.take (x9_2 : Int).toNat) := ⟨_, rfl⟩
           replace H : ((rewrite_follows.f kj18 l0 a1_0 a1_1 l1_2 l1_3 a1_4 a1_5 (strOfRunes y249)).bind fun t253 => (if t253 = true then (if 0 ≤ x10_18 then (if x10_18 ≤ (y245.length : Int) then ((rewrite_precedes.f l0 a1_0 a1_1 l1_2 l1_3 a1_4 a1_5 (strOfRunes (y245.drop (x10_18 : Int).toNat))).bind fun t258 => (if t258 = true then (if x8_2.length < 17592186044416 then (rewrite_Sites.l0 kj18 l0 y245 (x8_2 ++ [x9_2]) (wrap64 (x9_2 + 1)) a1_0 a1_1 l1_2 l1_3 a1_4 a1_5) else (none)) else (rewrite_Sites.l0 kj18 l0 y245 x8_2 (wrap64 (x9_2 + 1)) a1_0 a1_1 l1_2 l1_3 a1_4 a1_5))) else (none)) else (none)) else (rewrite_Sites.l0 kj18 l0 y245 x8_2 (wrap64 (x9_2 + 1)) a1_0 a1_1 l1_2 l1_3 a1_4 a1_5))) = some r := by first | (rw [hy249]; with_reducible exact H) | (have H2_ := (Option.bind_some _ _).symm.trans H; rw [hy249]; with_reducible exact H2_) | (have H2_ := (Option.bind_some _ _).symm.trans H; with_reducible exact H2_) | with_reducible exact H | (rw [hy249]; exact H) | exact H
           have Ny249 := am hy249
           clear hy249
           replace H := Option.bind_eq_some_iff.mp H
           obtain ⟨t253, A320, H⟩ := H
           (try dsimp only at H)
           have A32 := am A320
           clear A320
           by_cases c33 : t253 = true
           ·subst c33
            rw [if_pos rfl] at H
            by_cases c34 : 0 ≤ x10_18
            ·rw [if_pos c34] at H
             have c34b0 := eq_true c34
             have c34b1 : decide (0 ≤ x10_18) = true := decide_eq_true c34
             clear c34
             by_cases c35 : x10_18 ≤ (y245.length : Int)
             ·rw [if_pos c35] at H
              have c35b0 := eq_true c35
              have c35b1 : decide (x10_18 ≤ (y245.length : Int)) = true := decide_eq_true c35
              clear c35
              obtain ⟨y254, hy254⟩ : ∃ y_ : List Int, y_ = (y245.drop (x10_18 : Int).toNat) := ⟨_, rfl⟩
              replace H : ((rewrite_precedes.f l0 a1_0 a1_1 l1_2 l1_3 a1_4 a1_5 (strOfRunes y254)).bind fun t258 => (if t258 = true then (if x8_2.length < 17592186044416 then (rewrite_Sites.l0 kj18 l0 y245 (x8_2 ++ [x9_2]) (wrap64 (x9_2 + 1)) a1_0 a1_1 l1_2 l1_3 a1_4 a1_5) else (none)) else (rewrite_Sites.l0 kj18 l0 y245 x8_2 (wrap64 (x9_2 + 1)) a1_0 a1_1 l1_2 l1_3 a1_4 a1_5))) = some r := by first | (rw [hy254]; with_reducible exact H) | (have H2_ := (Option.bind_some _ _).symm.trans H; rw [hy254]; with_reducible exact H2_) | (have H2_ := (Option.bind_some _ _).symm.trans H; with_reducible exact H2_) | with_reducible exact H | (rw [hy254]; exact H) | exact H
              have Ny254 := am hy254
              clear hy254
              replace H := Option.bind_eq_some_iff.mp H
              obtain ⟨t258, A360, H⟩ := H
              (try dsimp only at H)
              have A36 := am A360
              clear A360
              by_cases c37 : t258 = true
              ·subst c37
               rw [if_pos rfl] at H
               by_cases c38 : x8_2.length < 17592186044416
               ·rw [if_pos c38] at H
                have LMc38 := am c38
                clear c38
                obtain ⟨y259, hy259⟩ : ∃ y_ : List Int, y_ = (x8_2 ++ [x9_2]) := ⟨_, rfl⟩
                replace H : (rewrite_Sites.l0 kj18 l0 y245 y259 (wrap64 (x9_2 + 1)) a1_0 a1_1 l1_2 l1_3 a1_4 a1_5) = some r := by first | (rw [hy259]; with_reducible exact H) | (have H2_ := (Option.bind_some _ _).symm.trans H; rw [hy259]; with_reducible exact H2_) | (have H2_ := (Option.bind_some _ _).symm.trans H; with_reducible exact H2_) | with_reducible exact H | (rw [hy259]; exact H) | exact H
                have Ny259 := am hy259
                clear hy259
                have H' := am H
                clear H
                try go_wp2
                have n0_ := am (Kd.R_drew HO_7.out)
                have n1_ := am (Kd.R_drew HO_8.out)
                have n2_ := am (blk_drew BK242.out)
                have n3_ := am (below_drew1 HB.out)
                clear HO_7
                clear HO_8
                clear BK242
                clear HB
                have HO_7 := n0_
                have HO_8 := n1_
                have BK242 := n2_
                have HB := n3_
                clear n0_ n1_ n2_ n3_
                have q40 : (x9_2 : Int) ≤ ((y245.length : Int) : Int) := oq
                obtain ⟨i040, hi040, _, hsz40, _⟩ := info_parts info21
                have hroom40 : y245.length ≤ co20 := (Kd.R_reads' HO_7.out).2.1
                have hC40 : Kd.C (Kd.int .i32) _ Ao20 y245.length y245 := (Kd.R_reads' HO_7.out).2.2
                have hcut40 := cut_to (P := Tryz.prog) 164 21 .i64 Tryz.underlying164 hi040 Ao20 y245.length co20 x9_2 (oq) q40 hroom40
                have hr40 := Kd.C_take (m := (x9_2 : Int).toNat) hC40 (by omega)
                have hy40 : y249.length = (x9_2 : Int).toNat := (by rw [Ny249.out, List.length_take]; omega)
                rw [← Ny249.out] at hr40
                rw [← hy40] at hcut40
                have HR252 := am hr40
                have HC252 := am (show y249.length ≤ co20 from by omega)
                clear hr40 hC40 hroom40 hi040 hsz40
                have KY40 := am hy40
                clear hy40
                have KL40 := am (show (x9_2 : Int).toNat ≤ y245.length from by omega)
                replace q40 := eq_true q40
                have hcv41 := Kd.C_rstring (P := Tryz.prog) (A := Ao20) (c := co20) Tryz.underlying164 Tryz.underlying21 Tryz.underlying9 (by repeat (first | (with_reducible exact HR252.out) | (with_reducible refine Kd.C_alloc ?_ _) | (with_reducible refine Kd.C_drewN ?_ _) | (with_reducible refine Kd.C_drew ?_) | exact HR252.out))
                refine start_ (n := 16) (S := fun w' => w'.cell? ⟨gb242, 0, none⟩ = some (.int .i32 a1_0) ∧ w'.cell? ⟨gb242, 1, none⟩ = some (.string a1_1) ∧ w'.cell? ⟨gb242, 2, none⟩ = some (.slice A1_2 l1_2.length c1_2) ∧ w'.cell? ⟨gb242, 3, none⟩ = some (.slice A1_3 l1_3.length c1_3) ∧ w'.cell? ⟨gb242, 4, none⟩ = some (.bool a1_4) ∧ w'.cell? ⟨gb242, 5, none⟩ = some (.bool a1_5) ∧ Kd.R (Kd.int .i32) 21 w' w.heap.size (fun _ => True) (.slice Ao20 y245.length co20) y245) (ds := []) (tf 16 0) (by kernel_rfl) rfl rfl ⟨(blk_cell BK242.out 0).trans rfl, (blk_cell BK242.out 1).trans rfl, (blk_cell BK242.out 2).trans rfl, (blk_cell BK242.out 3).trans rfl, (blk_cell BK242.out 4).trans rfl, (blk_cell BK242.out 5).trans rfl, HO_7.out⟩ (fun hHeld => ?_); refine with_tabW rewrite_Sites.tab12 rewrite_Sites.bits12 (fun HT_ HW_ => ?_)
                generalize wc.drew = w39 at HO_7 HO_8 BK242 HB HR252 hHeld ⊢
                refine pu 0 48 (tf 16 1) ?_
                refine pu 2 50 #[true, false, true, false, false, false, false, false, false, false, false, false, false, false, false, false] ?_
                refine pu 3 51 #[true, false, true, true, false, false, false, false, false, false, false, false, false, false, false, false] ?_
                refine pu 4 52 #[true, false, true, true, true, false, false, false, false, false, false, false, false, false, false, false] ?_
                refine take_ (i := 5) (N := some 53) (v := ?_) (a' := ?_) #[true, false, true, true, true, true, false, false, false, false, false, false, false, false, false, false] rfl rfl (take_ofW HT_.out HW_.out (by kernel_rfl)) (fun _ _ _ h => h) (Or.inl ⟨by rfl, ?_⟩) hHeld ?_ ?_
                rotate_left
                ·rintro w' ⟨s0, s1, s2, s3, s4, s5, s6⟩
                 have hr_ := Kd.C_take (m := (x9_2 : Int).toNat) (Kd.R_reads' s6).2.2 KL40.out
                 rw [← Ny249.out] at hr_
                 have hcv_ := Kd.C_rstring (P := Tryz.prog) (A := Ao20) (c := co20) Tryz.underlying164 Tryz.underlying21 Tryz.underlying9 hr_
                 go_simp
                 with_reducible rfl
                rotate_left
                ·simp only [Act.put, List.setIfInBounds_toArray, List.set_cons_zero, List.set_cons_succ, i64_w, i32_w]
                 rfl
                refine take_ (i := 1) (N := some 49) (v := ?_) (a' := ?_) (tf 16 6) rfl rfl (take_ofW HT_.out HW_.out (by kernel_rfl)) (fun _ _ _ h => h) (Or.inl ⟨by rfl, ?_⟩) hHeld ?_ ?_
                rotate_left
                ·rintro w' ⟨s0, s1, s2, s3, s4, s5, s6⟩
                 go_simp
                 with_reducible rfl
                rotate_left
                ·simp only [Act.put, List.setIfInBounds_toArray, List.set_cons_zero, List.set_cons_succ, i64_w, i32_w]
                 rfl
                refine one_ (i := 6) (N := some 54) (tf 16 7) rfl rfl (one_of HT_.out (by kernel_rfl)) (by decide) (fun K hK => ?_)
                refine goes_ Tryz.func92 (by kernel_rfl) rfl #[.slice A0 l0.length c0, .agg #[.int .i32 a1_0, .string a1_1, .slice A1_2 l1_2.length c1_2, .slice A1_3 l1_3.length c1_3, .bool a1_4, .bool a1_5], .string (strOfRunes y249)] (by rfl) rfl rfl (by (try simp only [List.map_toArray, List.map_cons, List.map_nil]); first | done | rfl | (simp only [List.length_drop, List.length_take]; rfl)) ?_
                with_reducible refine (rewrite_follows.calls kj18 _ _ l0 a1_0 a1_1 _ _ l1_2 _ _ l1_3 a1_4 a1_5 (strOfRunes y249) true _ ?side1 ?side2 ?side3 ?side4 ?side5 ?side6 (Glob.below HG.out bq) A32.out).mono ?_
                (case side1 => repeat (first | exact (Kd.C_below HR0.out HB.out) | (with_reducible refine Kd.C_alloc ?_ _) | (with_reducible refine Kd.C_drewN ?_ _) | (with_reducible refine Kd.C_drew ?_)))
                (case side2 => exact HC0.out)
                (case side3 => repeat (first | exact (Kd.C_below HR1_2.out HB.out) | (with_reducible refine Kd.C_alloc ?_ _) | (with_reducible refine Kd.C_drewN ?_ _) | (with_reducible refine Kd.C_drew ?_)))
                (case side4 => exact HC1_2.out)
                (case side5 => repeat (first | exact (Kd.C_below HR1_3.out HB.out) | (with_reducible refine Kd.C_alloc ?_ _) | (with_reducible refine Kd.C_drewN ?_ _) | (with_reducible refine Kd.C_drew ?_)))
                (case side6 => exact HC1_3.out)
                rintro e w42 ⟨rfl, hb⟩
                refine ⟨_, rfl, ?_⟩
                have n0_ := am (Kd.R_below (rR HO_7) hb)
                have n1_ := am (Kd.R_below (rR HO_8) hb)
                have n2_ := (bk BK242 hb)
                have n3_ := am (Kd.C_below (by repeat (first | (with_reducible exact HR252.out) | (with_reducible refine Kd.C_alloc ?_ _) | (with_reducible refine Kd.C_drewN ?_ _) | (with_reducible refine Kd.C_drew ?_) | exact HR252.out)) hb)
                have n4_ := bs hb
                clear HO_7
                clear HO_8
                clear BK242
                clear HR252
                clear HB
                have HO_7 := n0_
                have HO_8 := n1_
                have BK242 := n2_
                have HR252 := n3_
                have HB := n4_
                clear n0_ n1_ n2_ n3_ n4_
                (try clear hb)
                (try clear hb2)
                (try clear hk)
                (try clear hi)
                have q43 : (x10_18 : Int) ≤ ((y245.length : Int) : Int) := oq
                obtain ⟨i043, hi043, _, hsz43, _⟩ := info_parts info21
                have hroom43 : y245.length ≤ co20 := (Kd.R_reads' HO_7.out).2.1
                have hC43 : Kd.C (Kd.int .i32) _ Ao20 y245.length y245 := (Kd.R_reads' HO_7.out).2.2
                have q043 : (0 : Int) ≤ (x10_18 : Int) := oq
                have hcut43 := cut_from (P := Tryz.prog) 164 21 .i64 Tryz.underlying164 hi043 1 hsz43 Ao20 y245.length co20 x10_18 q043 q43
                have hr43 := Kd.C_drop (m := (x10_18 : Int).toNat) (c := co20) hC43 (by omega) hroom43
                obtain ⟨A43, hA43⟩ : ∃ A1, A1 = (if co20 = (x10_18 : Int).toNat then Ao20 else (Ao20 : Option Addr).map (·.add ((x10_18 : Int).toNat * 1))) := ⟨_, rfl⟩
                obtain ⟨c43, hc43⟩ : ∃ c1, c1 = co20 - (x10_18 : Int).toNat := ⟨_, rfl⟩
                have hy43 : y254.length = y245.length - (x10_18 : Int).toNat := (by rw [Ny254.out, List.length_drop] <;> omega)
                rw [show (y245).drop (x10_18 : Int).toNat = y254 from Ny254.out.symm] at hr43
                replace hr43 : Kd.C (Kd.int .i32) _ A43 y254.length y254 := (by rw [hA43]; exact hr43)
                rw [← hy43, ← hA43, ← hc43] at hcut43
                have HR257 := am hr43
                have HC257 := am (show y254.length ≤ c43 from by rw [hy43, hc43]; exact Nat.sub_le_sub_right hroom43 _)
                clear hr43 hC43 hroom43 hi043 hsz43 hc43
                have KY43 := am hy43
                have KA43 := am hA43
                clear hy43 hA43
                have KL43 := am (show (x10_18 : Int).toNat ≤ y245.length from by omega)
                replace q43 := eq_true q43
                have hcv44 := Kd.C_rstring (P := Tryz.prog) (A := A43) (c := c43) Tryz.underlying164 Tryz.underlying21 Tryz.underlying9 (by repeat (first | (with_reducible exact HR257.out) | (with_reducible refine Kd.C_alloc ?_ _) | (with_reducible refine Kd.C_drewN ?_ _) | (with_reducible refine Kd.C_drew ?_) | exact HR257.out))
                refine hK.out _ _ ⟨(blk_cell BK242.out 0).trans rfl, (blk_cell BK242.out 1).trans rfl, (blk_cell BK242.out 2).trans rfl, (blk_cell BK242.out 3).trans rfl, (blk_cell BK242.out 4).trans rfl, (blk_cell BK242.out 5).trans rfl, HO_7.out⟩ (fun hHeld => ?_)
                clear hK K
                refine norm_ (a' := ?_) ?_ ?_
                rotate_left
                ·show Act.put _ (some 54) _ = _
                 simp only [Act.put, List.setIfInBounds_toArray, List.set_cons_zero, List.set_cons_succ, i64_w, i32_w]
                 rfl
                refine pu 7 55 (tf 16 8) ?_
                refine pu 8 56 (tf 16 9) ?_
                refine pu 10 58 #[true, true, true, true, true, true, true, true, true, false, true, false, false, false, false, false] ?_
                refine pu 11 59 #[true, true, true, true, true, true, true, true, true, false, true, true, false, false, false, false] ?_
                refine pu 12 60 #[true, true, true, true, true, true, true, true, true, false, true, true, true, false, false, false] ?_
                refine take_ (i := 13) (N := some 61) (v := ?_) (a' := ?_) #[true, true, true, true, true, true, true, true, true, false, true, true, true, true, false, false] rfl rfl (take_ofW HT_.out HW_.out (by kernel_rfl)) (fun _ _ _ h => h) (Or.inl ⟨by rfl, ?_⟩) hHeld ?_ ?_
                rotate_left
                ·rintro w' ⟨s0, s1, s2, s3, s4, s5, s6⟩
                 have hr_ := Kd.C_drop (m := (x10_18 : Int).toNat) (c := co20) (Kd.R_reads' s6).2.2 KL43.out (Kd.R_reads' s6).2.1
                 rw [show (y245).drop (x10_18 : Int).toNat = y254 from Ny254.out.symm] at hr_
                 replace hr_ : Kd.C (Kd.int .i32) _ A43 y254.length y254 := (by rw [KA43.out]; exact hr_)
                 have hcv_ := Kd.C_rstring (P := Tryz.prog) (A := A43) (c := c43) Tryz.underlying164 Tryz.underlying21 Tryz.underlying9 hr_
                 go_simp
                 with_reducible rfl
                rotate_left
                ·simp only [Act.put, List.setIfInBounds_toArray, List.set_cons_zero, List.set_cons_succ, i64_w, i32_w]
                 rfl
                refine take_ (i := 9) (N := some 57) (v := ?_) (a' := ?_) (tf 16 14) rfl rfl (take_ofW HT_.out HW_.out (by kernel_rfl)) (fun _ _ _ h => h) (Or.inl ⟨by rfl, ?_⟩) hHeld ?_ ?_
                rotate_left
                ·rintro w' ⟨s0, s1, s2, s3, s4, s5, s6⟩
                 go_simp
                 with_reducible rfl
                rotate_left
                ·simp only [Act.put, List.setIfInBounds_toArray, List.set_cons_zero, List.set_cons_succ, i64_w, i32_w]
                 rfl
                refine one_ (i := 14) (N := some 62) (tf 16 15) rfl rfl (one_of HT_.out (by kernel_rfl)) (by decide) (fun K hK => ?_)
                refine goes_ Tryz.func93 (by kernel_rfl) rfl #[.slice A0 l0.length c0, .agg #[.int .i32 a1_0, .string a1_1, .slice A1_2 l1_2.length c1_2, .slice A1_3 l1_3.length c1_3, .bool a1_4, .bool a1_5], .string (strOfRunes y254)] (by rfl) rfl rfl (by (try simp only [List.map_toArray, List.map_cons, List.map_nil]); first | done | rfl | (simp only [List.length_drop, List.length_take]; rfl)) ?_
                with_reducible refine (rewrite_precedes.calls _ _ l0 a1_0 a1_1 _ _ l1_2 _ _ l1_3 a1_4 a1_5 (strOfRunes y254) true _ ?side1 ?side2 ?side3 ?side4 ?side5 ?side6 (Glob.below HG.out bq) A36.out).mono ?_
                (case side1 => repeat (first | exact (Kd.C_below HR0.out HB.out) | (with_reducible refine Kd.C_alloc ?_ _) | (with_reducible refine Kd.C_drewN ?_ _) | (with_reducible refine Kd.C_drew ?_)))
                (case side2 => exact HC0.out)
                (case side3 => repeat (first | exact (Kd.C_below HR1_2.out HB.out) | (with_reducible refine Kd.C_alloc ?_ _) | (with_reducible refine Kd.C_drewN ?_ _) | (with_reducible refine Kd.C_drew ?_)))
                (case side4 => exact HC1_2.out)
                (case side5 => repeat (first | exact (Kd.C_below HR1_3.out HB.out) | (with_reducible refine Kd.C_alloc ?_ _) | (with_reducible refine Kd.C_drewN ?_ _) | (with_reducible refine Kd.C_drew ?_)))
                (case side6 => exact HC1_3.out)
                rintro e w45 ⟨rfl, hb⟩
                refine ⟨_, rfl, ?_⟩
                have n0_ := am (Kd.R_below (rR HO_7) hb)
                have n1_ := am (Kd.R_below (rR HO_8) hb)
                have n2_ := (bk BK242 hb)
                have n3_ := am (Kd.C_below (by repeat (first | (with_reducible exact HR252.out) | (with_reducible refine Kd.C_alloc ?_ _) | (with_reducible refine Kd.C_drewN ?_ _) | (with_reducible refine Kd.C_drew ?_) | exact HR252.out)) hb)
                have n4_ := am (Kd.C_below (by repeat (first | (with_reducible exact HR257.out) | (with_reducible refine Kd.C_alloc ?_ _) | (with_reducible refine Kd.C_drewN ?_ _) | (with_reducible refine Kd.C_drew ?_) | exact HR257.out)) hb)
                have n5_ := bs hb
                clear HO_7
                clear HO_8
                clear BK242
                clear HR252
                clear HR257
                clear HB
                have HO_7 := n0_
                have HO_8 := n1_
                have BK242 := n2_
                have HR252 := n3_
                have HR257 := n4_
                have HB := n5_
                clear n0_ n1_ n2_ n3_ n4_ n5_
                (try clear hb)
                (try clear hb2)
                (try clear hk)
                (try clear hi)
                refine hK.out _ _ ⟨(blk_cell BK242.out 0).trans rfl, (blk_cell BK242.out 1).trans rfl, (blk_cell BK242.out 2).trans rfl, (blk_cell BK242.out 3).trans rfl, (blk_cell BK242.out 4).trans rfl, (blk_cell BK242.out 5).trans rfl, HO_7.out⟩ (fun hHeld => ?_)
                clear hK K
                refine norm_ (a' := ?_) ?_ ?_
                rotate_left
                ·show Act.put _ (some 62) _ = _
                 simp only [Act.put, List.setIfInBounds_toArray, List.set_cons_zero, List.set_cons_succ, i64_w, i32_w]
                 rfl
                refine pu 15 63 (tf 16 16) ?_
                refine done_ (done_of HT_.out (by kernel_rfl)) ?_
                try go_wp2_with (first | ((with_reducible refine gate_builtin (b := .append) (xs := #[.tmp 64, .tmp 66]) rfl ?_); (try (refine gate_guard (by rfl) ?_; dsimp only)); at_builtin; refine Kd.R_append (Kd.int .i64) (w0 := w) w.heap.size rfl (.tmp 64) (.tmp 66) 145 3 (.int .i64 0) 8 rfl Tryz.underlying145 info3 rfl (by decide) (by omega) u8 x8_2 x9_2 [.int .i64 x9_2] (fun _ => True) (fun _ => False) rfl rfl ?aP (fun _ hk => hk.elim) ?aF ?aO ?aB ?aS ?aL ?_; (case aP => exact rfl); (case aB => exact bq); (case aF => exact (fun _ _ => trivial)); (case aO => exact (rR HO_8)); (case aS => exact (below_size bq)); (case aL => have := LMc38.out; omega); intro v260 w46 ho hb hg hat; rw [← Ny259.out] at ho; have n0_ := am (Kd.R_over' (rR HO_7) (Kd.R_typed (rR HO_8)) (by decide) hg); have n1_ := am (blk_grown (g := gb242) (o := .cells #[.int .i32 a1_0, .string a1_1, .slice A1_2 l1_2.length c1_2, .slice A1_3 l1_3.length c1_3, .bool a1_4, .bool a1_5] 89 (0, 0)) (bd BK242) hg (Kd.R_ne HO_8.out BK242.out (by decide))); have n2_ := am (hb); have n3_ := am ((show Kd.C (Kd.int .i32) w46 Ao20 y249.length y249 from by rw [Ny249.out]; exact Kd.C_take (m := (x9_2 : Int).toNat) ((Kd.R_reads' (Kd.R_over' (rR HO_7) (Kd.R_typed (rR HO_8)) (by decide) hg)).2.2) KL40.out)); have n4_ := am ((show Kd.C (Kd.int .i32) w46 A43 y254.length y254 from by rw [Ny254.out, KA43.out]; exact Kd.C_drop (m := (x10_18 : Int).toNat) (c := co20) ((Kd.R_reads' (Kd.R_over' (rR HO_7) (Kd.R_typed (rR HO_8)) (by decide) hg)).2.2) KL43.out ((Kd.R_reads' (Kd.R_over' (rR HO_7) (Kd.R_typed (rR HO_8)) (by decide) hg)).2.1))); have n5_ := am (ho); clear HO_7; clear BK242; clear HB; clear HR252; clear HR257; clear HO_8; have HO_7 := n0_; have BK242 := n1_; have HB := n2_; have HR252 := n3_; have HR257 := n4_; have HO261 := n5_; clear n0_ n1_ n2_ n3_ n4_ n5_; clear ho hb hg hat))
                go_roundg kj18
                case measure => have := HJ3.out; have := HK2.out; have := HJ18.out; omega
                case rel => exact ⟨(y259), (wrap64 (x9_2 + 1)), rq, H', ⟨by have := HJ3.out; have := HK2.out; have := HJ18.out; omega⟩, ⟨rR HO_7⟩, ⟨rR HO261⟩, ⟨bd BK242⟩, ⟨bq⟩⟩
               rw [if_neg c38] at H
               exact absurd H (by simp)
              replace c37 := Bool.eq_false_iff.mpr c37
              subst c37
              rw [if_neg nf] at H
              have H' := am H
              clear H
              try go_wp2
              have n0_ := am (Kd.R_drew HO_7.out)
              have n1_ := am (Kd.R_drew HO_8.out)
              have n2_ := am (blk_drew BK242.out)
              have n3_ := am (below_drew1 HB.out)
              clear HO_7
              clear HO_8
              clear BK242
              clear HB
              have HO_7 := n0_
              have HO_8 := n1_
              have BK242 := n2_
              have HB := n3_
              clear n0_ n1_ n2_ n3_
              have q48 : (x9_2 : Int) ≤ ((y245.length : Int) : Int) := oq
              obtain ⟨i048, hi048, _, hsz48, _⟩ := info_parts info21
              have hroom48 : y245.length ≤ co20 := (Kd.R_reads' HO_7.out).2.1
              have hC48 : Kd.C (Kd.int .i32) _ Ao20 y245.length y245 := (Kd.R_reads' HO_7.out).2.2
              have hcut48 := cut_to (P := Tryz.prog) 164 21 .i64 Tryz.underlying164 hi048 Ao20 y245.length co20 x9_2 (oq) q48 hroom48
              have hr48 := Kd.C_take (m := (x9_2 : Int).toNat) hC48 (by omega)
              have hy48 : y249.length = (x9_2 : Int).toNat := (by rw [Ny249.out, List.length_take]; omega)
              rw [← Ny249.out] at hr48
              rw [← hy48] at hcut48
              have HR252 := am hr48
              have HC252 := am (show y249.length ≤ co20 from by omega)
              clear hr48 hC48 hroom48 hi048 hsz48
              have KY48 := am hy48
              clear hy48
              have KL48 := am (show (x9_2 : Int).toNat ≤ y245.length from by omega)
              replace q48 := eq_true q48
              have hcv49 := Kd.C_rstring (P := Tryz.prog) (A := Ao20) (c := co20) Tryz.underlying164 Tryz.underlying21 Tryz.underlying9 (by repeat (first | (with_reducible exact HR252.out) | (with_reducible refine Kd.C_alloc ?_ _) | (with_reducible refine Kd.C_drewN ?_ _) | (with_reducible refine Kd.C_drew ?_) | exact HR252.out))
              refine start_ (n := 16) (S := fun w' => w'.cell? ⟨gb242, 0, none⟩ = some (.int .i32 a1_0) ∧ w'.cell? ⟨gb242, 1, none⟩ = some (.string a1_1) ∧ w'.cell? ⟨gb242, 2, none⟩ = some (.slice A1_2 l1_2.length c1_2) ∧ w'.cell? ⟨gb242, 3, none⟩ = some (.slice A1_3 l1_3.length c1_3) ∧ w'.cell? ⟨gb242, 4, none⟩ = some (.bool a1_4) ∧ w'.cell? ⟨gb242, 5, none⟩ = some (.bool a1_5) ∧ Kd.R (Kd.int .i32) 21 w' w.heap.size (fun _ => True) (.slice Ao20 y245.length co20) y245) (ds := []) (tf 16 0) (by kernel_rfl) rfl rfl ⟨(blk_cell BK242.out 0).trans rfl, (blk_cell BK242.out 1).trans rfl, (blk_cell BK242.out 2).trans rfl, (blk_cell BK242.out 3).trans rfl, (blk_cell BK242.out 4).trans rfl, (blk_cell BK242.out 5).trans rfl, HO_7.out⟩ (fun hHeld => ?_); refine with_tabW rewrite_Sites.tab12 rewrite_Sites.bits12 (fun HT_ HW_ => ?_)
              generalize wc.drew = w47 at HO_7 HO_8 BK242 HB HR252 hHeld ⊢
              refine pu 0 48 (tf 16 1) ?_
              refine pu 2 50 #[true, false, true, false, false, false, false, false, false, false, false, false, false, false, false, false] ?_
              refine pu 3 51 #[true, false, true, true, false, false, false, false, false, false, false, false, false, false, false, false] ?_
              refine pu 4 52 #[true, false, true, true, true, false, false, false, false, false, false, false, false, false, false, false] ?_
              refine take_ (i := 5) (N := some 53) (v := ?_) (a' := ?_) #[true, false, true, true, true, true, false, false, false, false, false, false, false, false, false, false] rfl rfl (take_ofW HT_.out HW_.out (by kernel_rfl)) (fun _ _ _ h => h) (Or.inl ⟨by rfl, ?_⟩) hHeld ?_ ?_
              rotate_left
              ·rintro w' ⟨s0, s1, s2, s3, s4, s5, s6⟩
               have hr_ := Kd.C_take (m := (x9_2 : Int).toNat) (Kd.R_reads' s6).2.2 KL48.out
               rw [← Ny249.out] at hr_
               have hcv_ := Kd.C_rstring (P := Tryz.prog) (A := Ao20) (c := co20) Tryz.underlying164 Tryz.underlying21 Tryz.underlying9 hr_
               go_simp
               with_reducible rfl
              rotate_left
              ·simp only [Act.put, List.setIfInBounds_toArray, List.set_cons_zero, List.set_cons_succ, i64_w, i32_w]
               rfl
              refine take_ (i := 1) (N := some 49) (v := ?_) (a' := ?_) (tf 16 6) rfl rfl (take_ofW HT_.out HW_.out (by kernel_rfl)) (fun _ _ _ h => h) (Or.inl ⟨by rfl, ?_⟩) hHeld ?_ ?_
              rotate_left
              ·rintro w' ⟨s0, s1, s2, s3, s4, s5, s6⟩
               go_simp
               with_reducible rfl
              rotate_left
              ·simp only [Act.put, List.setIfInBounds_toArray, List.set_cons_zero, List.set_cons_succ, i64_w, i32_w]
               rfl
              refine one_ (i := 6) (N := some 54) (tf 16 7) rfl rfl (one_of HT_.out (by kernel_rfl)) (by decide) (fun K hK => ?_)
              refine goes_ Tryz.func92 (by kernel_rfl) rfl #[.slice A0 l0.length c0, .agg #[.int .i32 a1_0, .string a1_1, .slice A1_2 l1_2.length c1_2, .slice A1_3 l1_3.length c1_3, .bool a1_4, .bool a1_5], .string (strOfRunes y249)] (by rfl) rfl rfl (by (try simp only [List.map_toArray, List.map_cons, List.map_nil]); first | done | rfl | (simp only [List.length_drop, List.length_take]; rfl)) ?_
              with_reducible refine (rewrite_follows.calls kj18 _ _ l0 a1_0 a1_1 _ _ l1_2 _ _ l1_3 a1_4 a1_5 (strOfRunes y249) true _ ?side1 ?side2 ?side3 ?side4 ?side5 ?side6 (Glob.below HG.out bq) A32.out).mono ?_
              (case side1 => repeat (first | exact (Kd.C_below HR0.out HB.out) | (with_reducible refine Kd.C_alloc ?_ _) | (with_reducible refine Kd.C_drewN ?_ _) | (with_reducible refine Kd.C_drew ?_)))
              (case side2 => exact HC0.out)
              (case side3 => repeat (first | exact (Kd.C_below HR1_2.out HB.out) | (with_reducible refine Kd.C_alloc ?_ _) | (with_reducible refine Kd.C_drewN ?_ _) | (with_reducible refine Kd.C_drew ?_)))
              (case side4 => exact HC1_2.out)
              (case side5 => repeat (first | exact (Kd.C_below HR1_3.out HB.out) | (with_reducible refine Kd.C_alloc ?_ _) | (with_reducible refine Kd.C_drewN ?_ _) | (with_reducible refine Kd.C_drew ?_)))
              (case side6 => exact HC1_3.out)
              rintro e w50 ⟨rfl, hb⟩
              refine ⟨_, rfl, ?_⟩
              have n0_ := am (Kd.R_below (rR HO_7) hb)
              have n1_ := am (Kd.R_below (rR HO_8) hb)
              have n2_ := (bk BK242 hb)
              have n3_ := am (Kd.C_below (by repeat (first | (with_reducible exact HR252.out) | (with_reducible refine Kd.C_alloc ?_ _) | (with_reducible refine Kd.C_drewN ?_ _) | (with_reducible refine Kd.C_drew ?_) | exact HR252.out)) hb)
              have n4_ := bs hb
              clear HO_7
              clear HO_8
              clear BK242
              clear HR252
              clear HB
              have HO_7 := n0_
              have HO_8 := n1_
              have BK242 := n2_
              have HR252 := n3_
              have HB := n4_
              clear n0_ n1_ n2_ n3_ n4_
              (try clear hb)
              (try clear hb2)
              (try clear hk)
              (try clear hi)
              have q51 : (x10_18 : Int) ≤ ((y245.length : Int) : Int) := oq
              obtain ⟨i051, hi051, _, hsz51, _⟩ := info_parts info21
              have hroom51 : y245.length ≤ co20 := (Kd.R_reads' HO_7.out).2.1
              have hC51 : Kd.C (Kd.int .i32) _ Ao20 y245.length y245 := (Kd.R_reads' HO_7.out).2.2
              have q051 : (0 : Int) ≤ (x10_18 : Int) := oq
              have hcut51 := cut_from (P := Tryz.prog) 164 21 .i64 Tryz.underlying164 hi051 1 hsz51 Ao20 y245.length co20 x10_18 q051 q51
              have hr51 := Kd.C_drop (m := (x10_18 : Int).toNat) (c := co20) hC51 (by omega) hroom51
              obtain ⟨A51, hA51⟩ : ∃ A1, A1 = (if co20 = (x10_18 : Int).toNat then Ao20 else (Ao20 : Option Addr).map (·.add ((x10_18 : Int).toNat * 1))) := ⟨_, rfl⟩
              obtain ⟨c51, hc51⟩ : ∃ c1, c1 = co20 - (x10_18 : Int).toNat := ⟨_, rfl⟩
              have hy51 : y254.length = y245.length - (x10_18 : Int).toNat := (by rw [Ny254.out, List.length_drop] <;> omega)
              rw [show (y245).drop (x10_18 : Int).toNat = y254 from Ny254.out.symm] at hr51
              replace hr51 : Kd.C (Kd.int .i32) _ A51 y254.length y254 := (by rw [hA51]; exact hr51)
              rw [← hy51, ← hA51, ← hc51] at hcut51
              have HR257 := am hr51
              have HC257 := am (show y254.length ≤ c51 from by rw [hy51, hc51]; exact Nat.sub_le_sub_right hroom51 _)
              clear hr51 hC51 hroom51 hi051 hsz51 hc51
              have KY51 := am hy51
              have KA51 := am hA51
              clear hy51 hA51
              have KL51 := am (show (x10_18 : Int).toNat ≤ y245.length from by omega)
              replace q51 := eq_true q51
              have hcv52 := Kd.C_rstring (P := Tryz.prog) (A := A51) (c := c51) Tryz.underlying164 Tryz.underlying21 Tryz.underlying9 (by repeat (first | (with_reducible exact HR257.out) | (with_reducible refine Kd.C_alloc ?_ _) | (with_reducible refine Kd.C_drewN ?_ _) | (with_reducible refine Kd.C_drew ?_) | exact HR257.out))
              refine hK.out _ _ ⟨(blk_cell BK242.out 0).trans rfl, (blk_cell BK242.out 1).trans rfl, (blk_cell BK242.out 2).trans rfl, (blk_cell BK242.out 3).trans rfl, (blk_cell BK242.out 4).trans rfl, (blk_cell BK242.out 5).trans rfl, HO_7.out⟩ (fun hHeld => ?_)
              clear hK K
              refine norm_ (a' := ?_) ?_ ?_
              rotate_left
              ·show Act.put _ (some 54) _ = _
               simp only [Act.put, List.setIfInBounds_toArray, List.set_cons_zero, List.set_cons_succ, i64_w, i32_w]
               rfl
              refine pu 7 55 (tf 16 8) ?_
              refine pu 8 56 (tf 16 9) ?_
              refine pu 10 58 #[true, true, true, true, true, true, true, true, true, false, true, false, false, false, false, false] ?_
              refine pu 11 59 #[true, true, true, true, true, true, true, true, true, false, true, true, false, false, false, false] ?_
              refine pu 12 60 #[true, true, true, true, true, true, true, true, true, false, true, true, true, false, false, false] ?_
              refine take_ (i := 13) (N := some 61) (v := ?_) (a' := ?_) #[true, true, true, true, true, true, true, true, true, false, true, true, true, true, false, false] rfl rfl (take_ofW HT_.out HW_.out (by kernel_rfl)) (fun _ _ _ h => h) (Or.inl ⟨by rfl, ?_⟩) hHeld ?_ ?_
              rotate_left
              ·rintro w' ⟨s0, s1, s2, s3, s4, s5, s6⟩
               have hr_ := Kd.C_drop (m := (x10_18 : Int).toNat) (c := co20) (Kd.R_reads' s6).2.2 KL51.out (Kd.R_reads' s6).2.1
               rw [show (y245).drop (x10_18 : Int).toNat = y254 from Ny254.out.symm] at hr_
               replace hr_ : Kd.C (Kd.int .i32) _ A51 y254.length y254 := (by rw [KA51.out]; exact hr_)
               have hcv_ := Kd.C_rstring (P := Tryz.prog) (A := A51) (c := c51) Tryz.underlying164 Tryz.underlying21 Tryz.underlying9 hr_
               go_simp
               with_reducible rfl
              rotate_left
              ·simp only [Act.put, List.setIfInBounds_toArray, List.set_cons_zero, List.set_cons_succ, i64_w, i32_w]
               rfl
              refine take_ (i := 9) (N := some 57) (v := ?_) (a' := ?_) (tf 16 14) rfl rfl (take_ofW HT_.out HW_.out (by kernel_rfl)) (fun _ _ _ h => h) (Or.inl ⟨by rfl, ?_⟩) hHeld ?_ ?_
              rotate_left
              ·rintro w' ⟨s0, s1, s2, s3, s4, s5, s6⟩
               go_simp
               with_reducible rfl
              rotate_left
              ·simp only [Act.put, List.setIfInBounds_toArray, List.set_cons_zero, List.set_cons_succ, i64_w, i32_w]
               rfl
              refine one_ (i := 14) (N := some 62) (tf 16 15) rfl rfl (one_of HT_.out (by kernel_rfl)) (by decide) (fun K hK => ?_)
              refine goes_ Tryz.func93 (by kernel_rfl) rfl #[.slice A0 l0.length c0, .agg #[.int .i32 a1_0, .string a1_1, .slice A1_2 l1_2.length c1_2, .slice A1_3 l1_3.length c1_3, .bool a1_4, .bool a1_5], .string (strOfRunes y254)] (by rfl) rfl rfl (by (try simp only [List.map_toArray, List.map_cons, List.map_nil]); first | done | rfl | (simp only [List.length_drop, List.length_take]; rfl)) ?_
              with_reducible refine (rewrite_precedes.calls _ _ l0 a1_0 a1_1 _ _ l1_2 _ _ l1_3 a1_4 a1_5 (strOfRunes y254) false _ ?side1 ?side2 ?side3 ?side4 ?side5 ?side6 (Glob.below HG.out bq) A36.out).mono ?_
              (case side1 => repeat (first | exact (Kd.C_below HR0.out HB.out) | (with_reducible refine Kd.C_alloc ?_ _) | (with_reducible refine Kd.C_drewN ?_ _) | (with_reducible refine Kd.C_drew ?_)))
              (case side2 => exact HC0.out)
              (case side3 => repeat (first | exact (Kd.C_below HR1_2.out HB.out) | (with_reducible refine Kd.C_alloc ?_ _) | (with_reducible refine Kd.C_drewN ?_ _) | (with_reducible refine Kd.C_drew ?_)))
              (case side4 => exact HC1_2.out)
              (case side5 => repeat (first | exact (Kd.C_below HR1_3.out HB.out) | (with_reducible refine Kd.C_alloc ?_ _) | (with_reducible refine Kd.C_drewN ?_ _) | (with_reducible refine Kd.C_drew ?_)))
              (case side6 => exact HC1_3.out)
              rintro e w53 ⟨rfl, hb⟩
              refine ⟨_, rfl, ?_⟩
              have n0_ := am (Kd.R_below (rR HO_7) hb)
              have n1_ := am (Kd.R_below (rR HO_8) hb)
              have n2_ := (bk BK242 hb)
              have n3_ := am (Kd.C_below (by repeat (first | (with_reducible exact HR252.out) | (with_reducible refine Kd.C_alloc ?_ _) | (with_reducible refine Kd.C_drewN ?_ _) | (with_reducible refine Kd.C_drew ?_) | exact HR252.out)) hb)
              have n4_ := am (Kd.C_below (by repeat (first | (with_reducible exact HR257.out) | (with_reducible refine Kd.C_alloc ?_ _) | (with_reducible refine Kd.C_drewN ?_ _) | (with_reducible refine Kd.C_drew ?_) | exact HR257.out)) hb)
              have n5_ := bs hb
              clear HO_7
              clear HO_8
              clear BK242
              clear HR252
              clear HR257
              clear HB
              have HO_7 := n0_
              have HO_8 := n1_
              have BK242 := n2_
              have HR252 := n3_
              have HR257 := n4_
              have HB := n5_
              clear n0_ n1_ n2_ n3_ n4_ n5_
              (try clear hb)
              (try clear hb2)
              (try clear hk)
              (try clear hi)
              refine hK.out _ _ ⟨(blk_cell BK242.out 0).trans rfl, (blk_cell BK242.out 1).trans rfl, (blk_cell BK242.out 2).trans rfl, (blk_cell BK242.out 3).trans rfl, (blk_cell BK242.out 4).trans rfl, (blk_cell BK242.out 5).trans rfl, HO_7.out⟩ (fun hHeld => ?_)
              clear hK K
              refine norm_ (a' := ?_) ?_ ?_
              rotate_left
              ·show Act.put _ (some 62) _ = _
               simp only [Act.put, List.setIfInBounds_toArray, List.set_cons_zero, List.set_cons_succ, i64_w, i32_w]
               rfl
              refine pu 15 63 (tf 16 16) ?_
              refine done_ (done_of HT_.out (by kernel_rfl)) ?_
              try go_wp2
              go_roundg kj18
              case measure => have := HJ3.out; have := HK2.out; have := HJ18.out; omega
              case rel => exact ⟨(x8_2), (wrap64 (x9_2 + 1)), rq, H', ⟨by have := HJ3.out; have := HK2.out; have := HJ18.out; omega⟩, ⟨rR HO_7⟩, ⟨rR HO_8⟩, ⟨bd BK242⟩, ⟨bq⟩⟩
             rw [if_neg c35] at H
             exact absurd H (by simp)
            rw [if_neg c34] at H
            exact absurd H (by simp)
           replace c33 := Bool.eq_false_iff.mpr c33
           subst c33
           rw [if_neg nf] at H
           have H' := am H
           clear H
           try go_wp2
           have n0_ := am (Kd.R_drew HO_7.out)
           have n1_ := am (Kd.R_drew HO_8.out)
           have n2_ := am (blk_drew BK242.out)
           have n3_ := am (below_drew1 HB.out)
           clear HO_7
           clear HO_8
           clear BK242
           clear HB
           have HO_7 := n0_
           have HO_8 := n1_
           have BK242 := n2_
           have HB := n3_
           clear n0_ n1_ n2_ n3_
           have q55 : (x9_2 : Int) ≤ ((y245.length : Int) : Int) := oq
           obtain ⟨i055, hi055, _, hsz55, _⟩ := info_parts info21
           have hroom55 : y245.length ≤ co20 := (Kd.R_reads' HO_7.out).2.1
           have hC55 : Kd.C (Kd.int .i32) _ Ao20 y245.length y245 := (Kd.R_reads' HO_7.out).2.2
           have hcut55 := cut_to (P := Tryz.prog) 164 21 .i64 Tryz.underlying164 hi055 Ao20 y245.length co20 x9_2 (oq) q55 hroom55
           have hr55 := Kd.C_take (m := (x9_2 : Int).toNat) hC55 (by omega)
           have hy55 : y249.length = (x9_2 : Int).toNat := (by rw [Ny249.out, List.length_take]; omega)
           rw [← Ny249.out] at hr55
           rw [← hy55] at hcut55
           have HR252 := am hr55
           have HC252 := am (show y249.length ≤ co20 from by omega)
           clear hr55 hC55 hroom55 hi055 hsz55
           have KY55 := am hy55
           clear hy55
           have KL55 := am (show (x9_2 : Int).toNat ≤ y245.length from by omega)
           replace q55 := eq_true q55
           have hcv56 := Kd.C_rstring (P := Tryz.prog) (A := Ao20) (c := co20) Tryz.underlying164 Tryz.underlying21 Tryz.underlying9 (by repeat (first | (with_reducible exact HR252.out) | (with_reducible refine Kd.C_alloc ?_ _) | (with_reducible refine Kd.C_drewN ?_ _) | (with_reducible refine Kd.C_drew ?_) | exact HR252.out))
           refine start_ (n := 16) (S := fun w' => w'.cell? ⟨gb242, 0, none⟩ = some (.int .i32 a1_0) ∧ w'.cell? ⟨gb242, 1, none⟩ = some (.string a1_1) ∧ w'.cell? ⟨gb242, 2, none⟩ = some (.slice A1_2 l1_2.length c1_2) ∧ w'.cell? ⟨gb242, 3, none⟩ = some (.slice A1_3 l1_3.length c1_3) ∧ w'.cell? ⟨gb242, 4, none⟩ = some (.bool a1_4) ∧ w'.cell? ⟨gb242, 5, none⟩ = some (.bool a1_5) ∧ Kd.R (Kd.int .i32) 21 w' w.heap.size (fun _ => True) (.slice Ao20 y245.length co20) y245) (ds := []) (tf 16 0) (by kernel_rfl) rfl rfl ⟨(blk_cell BK242.out 0).trans rfl, (blk_cell BK242.out 1).trans rfl, (blk_cell BK242.out 2).trans rfl, (blk_cell BK242.out 3).trans rfl, (blk_cell BK242.out 4).trans rfl, (blk_cell BK242.out 5).trans rfl, HO_7.out⟩ (fun hHeld => ?_); refine with_tabW rewrite_Sites.tab12 rewrite_Sites.bits12 (fun HT_ HW_ => ?_)
           generalize wc.drew = w54 at HO_7 HO_8 BK242 HB HR252 hHeld ⊢
           refine pu 0 48 (tf 16 1) ?_
           refine pu 2 50 #[true, false, true, false, false, false, false, false, false, false, false, false, false, false, false, false] ?_
           refine pu 3 51 #[true, false, true, true, false, false, false, false, false, false, false, false, false, false, false, false] ?_
           refine pu 4 52 #[true, false, true, true, true, false, false, false, false, false, false, false, false, false, false, false] ?_
           refine take_ (i := 5) (N := some 53) (v := ?_) (a' := ?_) #[true, false, true, true, true, true, false, false, false, false, false, false, false, false, false, false] rfl rfl (take_ofW HT_.out HW_.out (by kernel_rfl)) (fun _ _ _ h => h) (Or.inl ⟨by rfl, ?_⟩) hHeld ?_ ?_
           rotate_left
           ·rintro w' ⟨s0, s1, s2, s3, s4, s5, s6⟩
            have hr_ := Kd.C_take (m := (x9_2 : Int).toNat) (Kd.R_reads' s6).2.2 KL55.out
            rw [← Ny249.out] at hr_
            have hcv_ := Kd.C_rstring (P := Tryz.prog) (A := Ao20) (c := co20) Tryz.underlying164 Tryz.underlying21 Tryz.underlying9 hr_
            go_simp
            with_reducible rfl
           rotate_left
           ·simp only [Act.put, List.setIfInBounds_toArray, List.set_cons_zero, List.set_cons_succ, i64_w, i32_w]
            rfl
           refine take_ (i := 1) (N := some 49) (v := ?_) (a' := ?_) (tf 16 6) rfl rfl (take_ofW HT_.out HW_.out (by kernel_rfl)) (fun _ _ _ h => h) (Or.inl ⟨by rfl, ?_⟩) hHeld ?_ ?_
           rotate_left
           ·rintro w' ⟨s0, s1, s2, s3, s4, s5, s6⟩
            go_simp
            with_reducible rfl
           rotate_left
           ·simp only [Act.put, List.setIfInBounds_toArray, List.set_cons_zero, List.set_cons_succ, i64_w, i32_w]
            rfl
           refine one_ (i := 6) (N := some 54) (tf 16 7) rfl rfl (one_of HT_.out (by kernel_rfl)) (by decide) (fun K hK => ?_)
           refine goes_ Tryz.func92 (by kernel_rfl) rfl #[.slice A0 l0.length c0, .agg #[.int .i32 a1_0, .string a1_1, .slice A1_2 l1_2.length c1_2, .slice A1_3 l1_3.length c1_3, .bool a1_4, .bool a1_5], .string (strOfRunes y249)] (by rfl) rfl rfl (by (try simp only [List.map_toArray, List.map_cons, List.map_nil]); first | done | rfl | (simp only [List.length_drop, List.length_take]; rfl)) ?_
           with_reducible refine (rewrite_follows.calls kj18 _ _ l0 a1_0 a1_1 _ _ l1_2 _ _ l1_3 a1_4 a1_5 (strOfRunes y249) false _ ?side1 ?side2 ?side3 ?side4 ?side5 ?side6 (Glob.below HG.out bq) A32.out).mono ?_
           (case side1 => repeat (first | exact (Kd.C_below HR0.out HB.out) | (with_reducible refine Kd.C_alloc ?_ _) | (with_reducible refine Kd.C_drewN ?_ _) | (with_reducible refine Kd.C_drew ?_)))
           (case side2 => exact HC0.out)
           (case side3 => repeat (first | exact (Kd.C_below HR1_2.out HB.out) | (with_reducible refine Kd.C_alloc ?_ _) | (with_reducible refine Kd.C_drewN ?_ _) | (with_reducible refine Kd.C_drew ?_)))
           (case side4 => exact HC1_2.out)
           (case side5 => repeat (first | exact (Kd.C_below HR1_3.out HB.out) | (with_reducible refine Kd.C_alloc ?_ _) | (with_reducible refine Kd.C_drewN ?_ _) | (with_reducible refine Kd.C_drew ?_)))
           (case side6 => exact HC1_3.out)
           rintro e w57 ⟨rfl, hb⟩
           refine ⟨_, rfl, ?_⟩
           have n0_ := am (Kd.R_below (rR HO_7) hb)
           have n1_ := am (Kd.R_below (rR HO_8) hb)
           have n2_ := (bk BK242 hb)
           have n3_ := am (Kd.C_below (by repeat (first | (with_reducible exact HR252.out) | (with_reducible refine Kd.C_alloc ?_ _) | (with_reducible refine Kd.C_drewN ?_ _) | (with_reducible refine Kd.C_drew ?_) | exact HR252.out)) hb)
           have n4_ := bs hb
           clear HO_7
           clear HO_8
           clear BK242
           clear HR252
           clear HB
           have HO_7 := n0_
           have HO_8 := n1_
           have BK242 := n2_
           have HR252 := n3_
           have HB := n4_
           clear n0_ n1_ n2_ n3_ n4_
           (try clear hb)
           (try clear hb2)
           (try clear hk)
           (try clear hi)
           refine hK.out _ _ ⟨(blk_cell BK242.out 0).trans rfl, (blk_cell BK242.out 1).trans rfl, (blk_cell BK242.out 2).trans rfl, (blk_cell BK242.out 3).trans rfl, (blk_cell BK242.out 4).trans rfl, (blk_cell BK242.out 5).trans rfl, HO_7.out⟩ (fun hHeld => ?_)
           clear hK K
           refine norm_ (a' := ?_) ?_ ?_
           rotate_left
           ·show Act.put _ (some 54) _ = _
            simp only [Act.put, List.setIfInBounds_toArray, List.set_cons_zero, List.set_cons_succ, i64_w, i32_w]
            rfl
           refine pu 7 55 (tf 16 8) ?_
           refine pv 8 56 (tf 16 9) ?_
           refine pv 9 57 (tf 16 10) ?_
           refine pv 10 58 (tf 16 11) ?_
           refine pv 11 59 (tf 16 12) ?_
           refine pv 12 60 (tf 16 13) ?_
           refine pv 13 61 (tf 16 14) ?_
           refine pv 14 62 (tf 16 15) ?_
           refine pu 15 63 (tf 16 16) ?_
           refine done_ (done_of HT_.out (by kernel_rfl)) ?_
           try go_wp2
           go_roundg kj18
           case measure => have := HJ3.out; have := HK2.out; have := HJ18.out; omega
           case rel => exact ⟨(x8_2), (wrap64 (x9_2 + 1)), rq, H', ⟨by have := HJ3.out; have := HK2.out; have := HJ18.out; omega⟩, ⟨rR HO_7⟩, ⟨rR HO_8⟩, ⟨bd BK242⟩, ⟨bq⟩⟩
          rw [if_neg c31] at H
          exact absurd H (by simp)
         rw [if_neg c30] at H
         exact absurd H (by simp)
      rw [if_neg c18] at H
      have c18b0 : decide (x9_2 ≤ (y245.length : Int)) = false := decide_eq_false c18
      clear c18
      obtain rfl := Option.some.inj H
      obtain ⟨Ao58, co58, eo58⟩ := Kd.R_slice HO_7.out
      subst eo58
      go_wp2
      go_ret
      exact ⟨_, eq', rR HO_8, bq⟩
   rw [if_neg c15] at H
   exact absurd H (by simp)
def rewrite_Apply.T3 : Bool × List (List Nat × List Nat) := (true, [([], []), ([], []), ([], []), ([], []), ([1, 2, 3], [1, 2, 3]), ([], []), ([0, 4, 5, 4], [0, 4, 5]), ([6, 6, 0, 1, 2, 3, 4, 5, 6], [6])])
def rewrite_Apply.B3 : List Nat := [0, 0, 0, 0, 14, 0, 63, 127]
theorem rewrite_Apply.tab3 : rtab .any (opsOf Tryz.f54 3) = rewrite_Apply.T3 := by kernel_rfl
theorem rewrite_Apply.bits3 : waitsOk rewrite_Apply.T3.2 rewrite_Apply.B3 = true := by kernel_rfl
theorem rewrite_Apply.calls (k : Nat) (A0 : Option Addr) (c0 : Nat) (l0 : List (S48)) (a1_0 : Int) (a1_1 : ByteArray) (A1_2 : Option Addr) (c1_2 : Nat) (l1_2 : List (S91)) (A1_3 : Option Addr) (c1_3 : Nat) (l1_3 : List (S91)) (a1_4 : Bool) (a1_5 : Bool) (a2 : ByteArray) (r1 : ByteArray) (r2 : Int) (w : World) (hr0 : Kd.C k48 w A0 l0.length l0) (hc0 : l0.length ≤ c0) (hr1_2 : Kd.C k91 w A1_2 l1_2.length l1_2) (hc1_2 : l1_2.length ≤ c1_2) (hr1_3 : Kd.C k91 w A1_3 l1_3.length l1_3) (hc1_3 : l1_3.length ≤ c1_3) (hG : Glob w) (h : rewrite_Apply.f k l0 a1_0 a1_1 l1_2 l1_3 a1_4 a1_5 a2 = some (r1, r2)) :
  Calls Tryz.prog 54 #[.slice A0 l0.length c0, .agg #[.int .i32 a1_0, .string a1_1, .slice A1_2 l1_2.length c1_2, .slice A1_3 l1_3.length c1_3, .bool a1_4, .bool a1_5], .string a2] w fun e w' => e = .returned (.tuple #[.string r1, .int .i64 r2]) ∧ Below w.heap.size w w' := by
 have HG := am hG
 clear hG
 have hu89 := Tryz.underlying89
 have HR0 := am hr0
 have HC0 := am hc0
 clear hr0 hc0
 have HR1_2 := am hr1_2
 have HC1_2 := am hc1_2
 clear hr1_2 hc1_2
 have HR1_3 := am hr1_3
 have HC1_3 := am hc1_3
 clear hr1_3 hc1_3
 have HB := am (Below.refl w.heap.size w)
 have H : ((rewrite_Valid.f k l0 a1_0 a1_1 l1_2 l1_3 a1_4 a1_5).bind fun t263 => (if t263 = true then ((rewrite_letters_isWord.f l0 a2).bind fun t264 => (rewrite_Apply.j0 k l0 a2 (!t264) a1_0 a1_1 l1_2 l1_3 a1_4 a1_5)) else (rewrite_Apply.j0 k l0 a2 true a1_0 a1_1 l1_2 l1_3 a1_4 a1_5))) = some (r1, r2) := h
 clear h
 have HC4 := am H
 clear H
 go_enter Tryz.func54, Tryz.ntmps54
 go_upto_region 1 with (first | ((with_reducible refine gate_dst (N := 4) rfl ?_); refine bx 4 #[.int .i32 a1_0, .string a1_1, .slice A1_2 l1_2.length c1_2, .slice A1_3 l1_3.length c1_3, .bool a1_4, .bool a1_5] 89 ?_; intro gb262 hg w5 hbox hb; have BK262 := am hbox; have GE262 := sz hg; replace HB := bs hb; clear hb hbox hg))
 (try simp only [Act.put, List.setIfInBounds_toArray, List.set_cons_zero, List.set_cons_succ])
 go_cut [18] (fun v18 wc => ∃ (kq : Nat) (x18_3 : Bool), v18 = .bool x18_3 ∧ Aside0 (rewrite_Apply.j0 kq l0 a2 x18_3 a1_0 a1_1 l1_2 l1_3 a1_4 a1_5 = some (r1, r2)) ∧ Aside0 (kq ≤ k) ∧ Aside0 (wc.heap[gb262]? = some (.cells #[.int .i32 a1_0, .string a1_1, (.slice A1_2 l1_2.length c1_2), (.slice A1_3 l1_3.length c1_3), .bool a1_4, .bool a1_5] 89 (0, 0))) ∧ Aside0 (Below w.heap.size w wc))
 case first =>
  have H := HC4.out
  clear HC4
  replace H := Option.bind_eq_some_iff.mp H
  obtain ⟨t263, A60, H⟩ := H
  (try dsimp only at H)
  have A6 := am A60
  clear A60
  by_cases c7 : t263 = true
  ·subst c7
   rw [if_pos rfl] at H
   replace H := Option.bind_eq_some_iff.mp H
   obtain ⟨t264, A80, H⟩ := H
   (try dsimp only at H)
   have A8 := am A80
   clear A80
   have H' := am H
   clear H
   obtain ⟨zaa, zab, zac, zad, zae, zaf, zag, zah, zai, zaj, zak, zal⟩ := bc6 BK262
   go_wp2_with (first | ((with_reducible refine gate_callee (f := 32) rfl ?_); refine gL (some 11) Tryz.func32 #[.slice A0 l0.length c0, .agg #[.int .i32 a1_0, .string a1_1, .slice A1_2 l1_2.length c1_2, .slice A1_3 l1_3.length c1_3, .bool a1_4, .bool a1_5]] ?_; (with_reducible refine (rewrite_Valid.calls k _ _ l0 a1_0 a1_1 _ _ l1_2 _ _ l1_3 a1_4 a1_5 true _ (cq HR0) HC0.out (cq HR1_2) HC1_2.out (cq HR1_3) HC1_3.out (Glob.below HG.out bq) A6.out).mono ?_); rintro e w10 ⟨rfl, hb⟩; refine ⟨_, rfl, ?_⟩; replace BK262 := bk BK262 hb; replace HB := bs hb; (try clear hb)) | (go_at_call 53; (with_reducible refine (rewrite_letters_isWord.calls _ _ l0 a2 t264 _ (cq HR0) HC0.out (Glob.below HG.out bq) A8.out).mono ?_); rintro e w11 ⟨rfl, hb⟩; replace BK262 := bk BK262 hb; replace HB := bs hb; (try clear hb)))
   go_meet
   case rel => exact ⟨_, (!t264), rq, H', ⟨by first | omega | exact Nat.le_refl _⟩, ⟨bd BK262⟩, ⟨bq⟩⟩
  replace c7 := Bool.eq_false_iff.mpr c7
  subst c7
  rw [if_neg nf] at H
  have H' := am H
  clear H
  obtain ⟨zam, zan, zao, zap, zaq, zar, zas, zat, zau, zav, zaw, zax⟩ := bc6 BK262
  go_wp2_with (first | ((with_reducible refine gate_callee (f := 32) rfl ?_); refine gL (some 11) Tryz.func32 #[.slice A0 l0.length c0, .agg #[.int .i32 a1_0, .string a1_1, .slice A1_2 l1_2.length c1_2, .slice A1_3 l1_3.length c1_3, .bool a1_4, .bool a1_5]] ?_; (with_reducible refine (rewrite_Valid.calls k _ _ l0 a1_0 a1_1 _ _ l1_2 _ _ l1_3 a1_4 a1_5 false _ (cq HR0) HC0.out (cq HR1_2) HC1_2.out (cq HR1_3) HC1_3.out (Glob.below HG.out bq) A6.out).mono ?_); rintro e w13 ⟨rfl, hb⟩; refine ⟨_, rfl, ?_⟩; replace BK262 := bk BK262 hb; replace HB := bs hb; (try clear hb)))
  go_meet
  case rel => exact ⟨_, (true), rq, H', ⟨by first | omega | exact Nat.le_refl _⟩, ⟨bd BK262⟩, ⟨bq⟩⟩
 case rest =>
  clear HC4
  obtain ⟨kq, x18_3, rfl, HA, HJ3, BK262, HB⟩ := hcut
  cases kq with
  | zero => exact absurd HA.out (by simp [rewrite_Apply.j0])
  | succ kj3 =>
   have H := HA.out
   clear HA
   simp only [rewrite_Apply.j0] at H
   by_cases c14 : x18_3 = true
   ·subst c14
    rw [if_pos rfl] at H
    simp only [Option.some.injEq, Prod.mk.injEq] at H
    obtain ⟨rfl, rfl⟩ := H
    go_wp2
    go_ret2
    exact ⟨eq', bq⟩
   replace c14 := Bool.eq_false_iff.mpr c14
   subst c14
   rw [if_neg nf] at H
   replace H := Option.bind_eq_some_iff.mp H
   obtain ⟨t265, A150, H⟩ := H
   (try dsimp only at H)
   have A15 := am A150
   clear A150
   replace H := Option.bind_eq_some_iff.mp H
   obtain ⟨t268, A160, H⟩ := H
   (try dsimp only at H)
   have A16 := am A160
   clear A160
   replace H := Option.bind_eq_some_iff.mp H
   obtain ⟨t269, A170, H⟩ := H
   (try dsimp only at H)
   have A17 := am A170
   clear A170
   by_cases c18 : t269 > 40
   ·rw [if_pos c18] at H
    have c18b0 : decide (40 < t269) = true := decide_eq_true c18
    clear c18
    simp only [Option.some.injEq, Prod.mk.injEq] at H
    obtain ⟨rfl, rfl⟩ := H
    try go_wp2
    have n0_ := am (blk_drew BK262.out)
    have n1_ := am (below_drew1 HB.out)
    clear BK262
    clear HB
    have BK262 := n0_
    have HB := n1_
    clear n0_ n1_
    refine start_ (n := 8) (S := fun w' => w'.cell? ⟨gb262, 0, none⟩ = some (.int .i32 a1_0) ∧ w'.cell? ⟨gb262, 1, none⟩ = some (.string a1_1) ∧ w'.cell? ⟨gb262, 2, none⟩ = some (.slice A1_2 l1_2.length c1_2) ∧ w'.cell? ⟨gb262, 3, none⟩ = some (.slice A1_3 l1_3.length c1_3) ∧ w'.cell? ⟨gb262, 4, none⟩ = some (.bool a1_4) ∧ w'.cell? ⟨gb262, 5, none⟩ = some (.bool a1_5)) (ds := []) (tf 8 0) (by kernel_rfl) rfl rfl ⟨(blk_cell BK262.out 0).trans rfl, (blk_cell BK262.out 1).trans rfl, (blk_cell BK262.out 2).trans rfl, (blk_cell BK262.out 3).trans rfl, (blk_cell BK262.out 4).trans rfl, (blk_cell BK262.out 5).trans rfl⟩ (fun hHeld => ?_); refine with_tabW rewrite_Apply.tab3 rewrite_Apply.bits3 (fun HT_ HW_ => ?_)
    generalize wc.drew = w19 at BK262 HB hHeld ⊢
    refine pu 1 20 #[false, true, false, false, false, false, false, false] ?_
    refine pu 3 22 #[false, true, false, true, false, false, false, false] ?_
    refine pu 5 24 #[false, true, false, true, false, true, false, false] ?_
    refine take_ (i := 0) (N := some 19) (v := ?_) (a' := ?_) #[true, true, false, true, false, true, false, false] rfl rfl (take_ofW HT_.out HW_.out (by kernel_rfl)) (fun _ _ _ h => h) (Or.inl ⟨by rfl, ?_⟩) hHeld ?_ ?_
    rotate_left
    ·rintro w' ⟨s0, s1, s2, s3, s4, s5⟩
     go_simp
     with_reducible rfl
    rotate_left
    ·simp only [Act.put, List.setIfInBounds_toArray, List.set_cons_zero, List.set_cons_succ, i64_w, i32_w]
     rfl
    refine take_ (i := 2) (N := some 21) (v := ?_) (a' := ?_) #[true, true, true, true, false, true, false, false] rfl rfl (take_ofW HT_.out HW_.out (by kernel_rfl)) (fun _ _ _ h => h) (Or.inl ⟨by rfl, ?_⟩) hHeld ?_ ?_
    rotate_left
    ·rintro w' ⟨s0, s1, s2, s3, s4, s5⟩
     go_simp
     with_reducible rfl
    rotate_left
    ·simp only [Act.put, List.setIfInBounds_toArray, List.set_cons_zero, List.set_cons_succ, i64_w, i32_w]
     rfl
    refine one_ (i := 4) (N := some 23) (tf 8 6) rfl rfl (one_of HT_.out (by kernel_rfl)) (by decide) (fun K hK => ?_)
    refine goes_ Tryz.func75 (by kernel_rfl) rfl #[.slice A0 l0.length c0, .agg #[.int .i32 a1_0, .string a1_1, .slice A1_2 l1_2.length c1_2, .slice A1_3 l1_3.length c1_3, .bool a1_4, .bool a1_5], .string a2] (by rfl) rfl rfl (by (try simp only [List.map_toArray, List.map_cons, List.map_nil]); first | done | rfl | (simp only [List.length_drop, List.length_take]; rfl)) ?_
    with_reducible refine (rewrite_Sites.calls kj3 _ _ l0 a1_0 a1_1 _ _ l1_2 _ _ l1_3 a1_4 a1_5 a2 t265 _ ?side1 ?side2 ?side3 ?side4 ?side5 ?side6 (Glob.below HG.out bq) A15.out).mono ?_
    (case side1 => repeat (first | exact (Kd.C_below HR0.out HB.out) | (with_reducible refine Kd.C_alloc ?_ _) | (with_reducible refine Kd.C_drewN ?_ _) | (with_reducible refine Kd.C_drew ?_)))
    (case side2 => exact HC0.out)
    (case side3 => repeat (first | exact (Kd.C_below HR1_2.out HB.out) | (with_reducible refine Kd.C_alloc ?_ _) | (with_reducible refine Kd.C_drewN ?_ _) | (with_reducible refine Kd.C_drew ?_)))
    (case side4 => exact HC1_2.out)
    (case side5 => repeat (first | exact (Kd.C_below HR1_3.out HB.out) | (with_reducible refine Kd.C_alloc ?_ _) | (with_reducible refine Kd.C_drewN ?_ _) | (with_reducible refine Kd.C_drew ?_)))
    (case side6 => exact HC1_3.out)
    rintro e w20 ⟨v266, rfl, ho0, hb⟩
    refine ⟨_, rfl, ?_⟩
    have n0_ := am (Kd.R_lower ho0 (below_size bq))
    have n1_ := (bk BK262 hb)
    have n2_ := bs hb
    clear BK262
    clear HB
    have HO267 := n0_
    have BK262 := n1_
    have HB := n2_
    clear n0_ n1_ n2_
    (try clear hb)
    (try clear hb2)
    (try clear hk)
    (try clear hi)
    (try clear ho0)
    obtain ⟨Ao21, co21, eo21⟩ := Kd.R_slice HO267.out
    (first | subst eo21 | (injection eo21 with f1_ f2_ f3_; have f4_ := f1_.symm; have f5_ := f3_.symm; clear f1_ f2_ f3_; subst f4_; subst f5_))
    refine hK.out _ _ ⟨(blk_cell BK262.out 0).trans rfl, (blk_cell BK262.out 1).trans rfl, (blk_cell BK262.out 2).trans rfl, (blk_cell BK262.out 3).trans rfl, (blk_cell BK262.out 4).trans rfl, (blk_cell BK262.out 5).trans rfl⟩ (fun hHeld => ?_)
    clear hK K
    refine norm_ (a' := ?_) ?_ ?_
    rotate_left
    ·show Act.put _ (some 23) _ = _
     simp only [Act.put, List.setIfInBounds_toArray, List.set_cons_zero, List.set_cons_succ, i64_w, i32_w]
     rfl
    refine one_ (i := 6) (N := some 25) (tf 8 7) rfl rfl (one_of HT_.out (by kernel_rfl)) (by decide) (fun K hK => ?_)
    refine goes_ Tryz.func74 (by kernel_rfl) rfl #[.agg #[.int .i32 a1_0, .string a1_1, .slice A1_2 l1_2.length c1_2, .slice A1_3 l1_3.length c1_3, .bool a1_4, .bool a1_5], .slice Ao21 t265.length co21, .string a2] (by rfl) rfl rfl (by (try simp only [List.map_toArray, List.map_cons, List.map_nil]); first | done | rfl | (simp only [List.length_drop, List.length_take]; rfl)) ?_
    with_reducible refine (rewrite_result.calls kj3 a1_0 a1_1 _ _ l1_2 _ _ l1_3 a1_4 a1_5 (fun k_ => some k_ = (.slice Ao21 t265.length co21 : Value).ownBlock) _ _ t265 a2 t268 _ ?side1 ?side2 ?side3 ?side4 ?side5 A16.out).mono ?_
    (case side1 => repeat (first | exact (Kd.C_below HR1_2.out HB.out) | (with_reducible refine Kd.C_alloc ?_ _) | (with_reducible refine Kd.C_drewN ?_ _) | (with_reducible refine Kd.C_drew ?_)))
    (case side2 => exact HC1_2.out)
    (case side3 => repeat (first | exact (Kd.C_below HR1_3.out HB.out) | (with_reducible refine Kd.C_alloc ?_ _) | (with_reducible refine Kd.C_drewN ?_ _) | (with_reducible refine Kd.C_drew ?_)))
    (case side4 => exact HC1_3.out)
    (case side5 => exact Kd.R_V (Kd.R_tight rfl (Kd.R_types (HO267.out) BK262.out (by decide))))
    rintro e w22 ⟨rfl, hb⟩
    refine ⟨_, rfl, ?_⟩
    have n0_ := am (Kd.R_below (rR HO267) hb)
    have n1_ := (bk BK262 hb)
    have n2_ := bs hb
    clear HO267
    clear BK262
    clear HB
    have HO267 := n0_
    have BK262 := n1_
    have HB := n2_
    clear n0_ n1_ n2_
    (try clear hb)
    (try clear hb2)
    (try clear hk)
    (try clear hi)
    refine hK.out _ _ ⟨(blk_cell BK262.out 0).trans rfl, (blk_cell BK262.out 1).trans rfl, (blk_cell BK262.out 2).trans rfl, (blk_cell BK262.out 3).trans rfl, (blk_cell BK262.out 4).trans rfl, (blk_cell BK262.out 5).trans rfl⟩ (fun hHeld => ?_)
    clear hK K
    refine norm_ (a' := ?_) ?_ ?_
    rotate_left
    ·show Act.put _ (some 25) _ = _
     simp only [Act.put, List.setIfInBounds_toArray, List.set_cons_zero, List.set_cons_succ, i64_w, i32_w]
     rfl
    refine pu 7 8 (tf 8 8) ?_
    refine done_ (done_of HT_.out (by kernel_rfl)) ?_
    try go_wp2_with (first | ((with_reducible refine gate_callee (f := 27) rfl ?_); refine gL (some 27) Tryz.func27 #[.string t268] ?_; (with_reducible refine (utf8_RuneCountInString.calls t268 t269 _ A17.out).mono ?_); rintro e w23 ⟨rfl, hb⟩; refine ⟨_, rfl, ?_⟩; replace HO267 := am (Kd.R_below (rR HO267) hb); replace BK262 := bk BK262 hb; replace HB := bs hb; (try clear hb)))
    go_ret2
    exact ⟨eq', bq⟩
   rw [if_neg c18] at H
   have c18b0 : decide (40 < t269) = false := decide_eq_false c18
   clear c18
   simp only [Option.some.injEq, Prod.mk.injEq] at H
   obtain ⟨rfl, rfl⟩ := H
   try go_wp2
   have n0_ := am (blk_drew BK262.out)
   have n1_ := am (below_drew1 HB.out)
   clear BK262
   clear HB
   have BK262 := n0_
   have HB := n1_
   clear n0_ n1_
   refine start_ (n := 8) (S := fun w' => w'.cell? ⟨gb262, 0, none⟩ = some (.int .i32 a1_0) ∧ w'.cell? ⟨gb262, 1, none⟩ = some (.string a1_1) ∧ w'.cell? ⟨gb262, 2, none⟩ = some (.slice A1_2 l1_2.length c1_2) ∧ w'.cell? ⟨gb262, 3, none⟩ = some (.slice A1_3 l1_3.length c1_3) ∧ w'.cell? ⟨gb262, 4, none⟩ = some (.bool a1_4) ∧ w'.cell? ⟨gb262, 5, none⟩ = some (.bool a1_5)) (ds := []) (tf 8 0) (by kernel_rfl) rfl rfl ⟨(blk_cell BK262.out 0).trans rfl, (blk_cell BK262.out 1).trans rfl, (blk_cell BK262.out 2).trans rfl, (blk_cell BK262.out 3).trans rfl, (blk_cell BK262.out 4).trans rfl, (blk_cell BK262.out 5).trans rfl⟩ (fun hHeld => ?_); refine with_tabW rewrite_Apply.tab3 rewrite_Apply.bits3 (fun HT_ HW_ => ?_)
   generalize wc.drew = w24 at BK262 HB hHeld ⊢
   refine pu 1 20 #[false, true, false, false, false, false, false, false] ?_
   refine pu 3 22 #[false, true, false, true, false, false, false, false] ?_
   refine pu 5 24 #[false, true, false, true, false, true, false, false] ?_
   refine take_ (i := 0) (N := some 19) (v := ?_) (a' := ?_) #[true, true, false, true, false, true, false, false] rfl rfl (take_ofW HT_.out HW_.out (by kernel_rfl)) (fun _ _ _ h => h) (Or.inl ⟨by rfl, ?_⟩) hHeld ?_ ?_
   rotate_left
   ·rintro w' ⟨s0, s1, s2, s3, s4, s5⟩
    go_simp
    with_reducible rfl
   rotate_left
   ·simp only [Act.put, List.setIfInBounds_toArray, List.set_cons_zero, List.set_cons_succ, i64_w, i32_w]
    rfl
   refine take_ (i := 2) (N := some 21) (v := ?_) (a' := ?_) #[true, true, true, true, false, true, false, false] rfl rfl (take_ofW HT_.out HW_.out (by kernel_rfl)) (fun _ _ _ h => h) (Or.inl ⟨by rfl, ?_⟩) hHeld ?_ ?_
   rotate_left
   ·rintro w' ⟨s0, s1, s2, s3, s4, s5⟩
    go_simp
    with_reducible rfl
   rotate_left
   ·simp only [Act.put, List.setIfInBounds_toArray, List.set_cons_zero, List.set_cons_succ, i64_w, i32_w]
    rfl
   refine one_ (i := 4) (N := some 23) (tf 8 6) rfl rfl (one_of HT_.out (by kernel_rfl)) (by decide) (fun K hK => ?_)
   refine goes_ Tryz.func75 (by kernel_rfl) rfl #[.slice A0 l0.length c0, .agg #[.int .i32 a1_0, .string a1_1, .slice A1_2 l1_2.length c1_2, .slice A1_3 l1_3.length c1_3, .bool a1_4, .bool a1_5], .string a2] (by rfl) rfl rfl (by (try simp only [List.map_toArray, List.map_cons, List.map_nil]); first | done | rfl | (simp only [List.length_drop, List.length_take]; rfl)) ?_
   with_reducible refine (rewrite_Sites.calls kj3 _ _ l0 a1_0 a1_1 _ _ l1_2 _ _ l1_3 a1_4 a1_5 a2 t265 _ ?side1 ?side2 ?side3 ?side4 ?side5 ?side6 (Glob.below HG.out bq) A15.out).mono ?_
   (case side1 => repeat (first | exact (Kd.C_below HR0.out HB.out) | (with_reducible refine Kd.C_alloc ?_ _) | (with_reducible refine Kd.C_drewN ?_ _) | (with_reducible refine Kd.C_drew ?_)))
   (case side2 => exact HC0.out)
   (case side3 => repeat (first | exact (Kd.C_below HR1_2.out HB.out) | (with_reducible refine Kd.C_alloc ?_ _) | (with_reducible refine Kd.C_drewN ?_ _) | (with_reducible refine Kd.C_drew ?_)))
   (case side4 => exact HC1_2.out)
   (case side5 => repeat (first | exact (Kd.C_below HR1_3.out HB.out) | (with_reducible refine Kd.C_alloc ?_ _) | (with_reducible refine Kd.C_drewN ?_ _) | (with_reducible refine Kd.C_drew ?_)))
   (case side6 => exact HC1_3.out)
   rintro e w25 ⟨v266, rfl, ho0, hb⟩
   refine ⟨_, rfl, ?_⟩
   have n0_ := am (Kd.R_lower ho0 (below_size bq))
   have n1_ := (bk BK262 hb)
   have n2_ := bs hb
   clear BK262
   clear HB
   have HO267 := n0_
   have BK262 := n1_
   have HB := n2_
   clear n0_ n1_ n2_
   (try clear hb)
   (try clear hb2)
   (try clear hk)
   (try clear hi)
   (try clear ho0)
   obtain ⟨Ao26, co26, eo26⟩ := Kd.R_slice HO267.out
   (first | subst eo26 | (injection eo26 with f1_ f2_ f3_; have f4_ := f1_.symm; have f5_ := f3_.symm; clear f1_ f2_ f3_; subst f4_; subst f5_))
   refine hK.out _ _ ⟨(blk_cell BK262.out 0).trans rfl, (blk_cell BK262.out 1).trans rfl, (blk_cell BK262.out 2).trans rfl, (blk_cell BK262.out 3).trans rfl, (blk_cell BK262.out 4).trans rfl, (blk_cell BK262.out 5).trans rfl⟩ (fun hHeld => ?_)
   clear hK K
   refine norm_ (a' := ?_) ?_ ?_
   rotate_left
   ·show Act.put _ (some 23) _ = _
    simp only [Act.put, List.setIfInBounds_toArray, List.set_cons_zero, List.set_cons_succ, i64_w, i32_w]
    rfl
   refine one_ (i := 6) (N := some 25) (tf 8 7) rfl rfl (one_of HT_.out (by kernel_rfl)) (by decide) (fun K hK => ?_)
   refine goes_ Tryz.func74 (by kernel_rfl) rfl #[.agg #[.int .i32 a1_0, .string a1_1, .slice A1_2 l1_2.length c1_2, .slice A1_3 l1_3.length c1_3, .bool a1_4, .bool a1_5], .slice Ao26 t265.length co26, .string a2] (by rfl) rfl rfl (by (try simp only [List.map_toArray, List.map_cons, List.map_nil]); first | done | rfl | (simp only [List.length_drop, List.length_take]; rfl)) ?_
   with_reducible refine (rewrite_result.calls kj3 a1_0 a1_1 _ _ l1_2 _ _ l1_3 a1_4 a1_5 (fun k_ => some k_ = (.slice Ao26 t265.length co26 : Value).ownBlock) _ _ t265 a2 t268 _ ?side1 ?side2 ?side3 ?side4 ?side5 A16.out).mono ?_
   (case side1 => repeat (first | exact (Kd.C_below HR1_2.out HB.out) | (with_reducible refine Kd.C_alloc ?_ _) | (with_reducible refine Kd.C_drewN ?_ _) | (with_reducible refine Kd.C_drew ?_)))
   (case side2 => exact HC1_2.out)
   (case side3 => repeat (first | exact (Kd.C_below HR1_3.out HB.out) | (with_reducible refine Kd.C_alloc ?_ _) | (with_reducible refine Kd.C_drewN ?_ _) | (with_reducible refine Kd.C_drew ?_)))
   (case side4 => exact HC1_3.out)
   (case side5 => exact Kd.R_V (Kd.R_tight rfl (Kd.R_types (HO267.out) BK262.out (by decide))))
   rintro e w27 ⟨rfl, hb⟩
   refine ⟨_, rfl, ?_⟩
   have n0_ := am (Kd.R_below (rR HO267) hb)
   have n1_ := (bk BK262 hb)
   have n2_ := bs hb
   clear HO267
   clear BK262
   clear HB
   have HO267 := n0_
   have BK262 := n1_
   have HB := n2_
   clear n0_ n1_ n2_
   (try clear hb)
   (try clear hb2)
   (try clear hk)
   (try clear hi)
   refine hK.out _ _ ⟨(blk_cell BK262.out 0).trans rfl, (blk_cell BK262.out 1).trans rfl, (blk_cell BK262.out 2).trans rfl, (blk_cell BK262.out 3).trans rfl, (blk_cell BK262.out 4).trans rfl, (blk_cell BK262.out 5).trans rfl⟩ (fun hHeld => ?_)
   clear hK K
   refine norm_ (a' := ?_) ?_ ?_
   rotate_left
   ·show Act.put _ (some 25) _ = _
    simp only [Act.put, List.setIfInBounds_toArray, List.set_cons_zero, List.set_cons_succ, i64_w, i32_w]
    rfl
   refine pu 7 8 (tf 8 8) ?_
   refine done_ (done_of HT_.out (by kernel_rfl)) ?_
   try go_wp2_with (first | ((with_reducible refine gate_callee (f := 27) rfl ?_); refine gL (some 27) Tryz.func27 #[.string t268] ?_; (with_reducible refine (utf8_RuneCountInString.calls t268 t269 _ A17.out).mono ?_); rintro e w28 ⟨rfl, hb⟩; refine ⟨_, rfl, ?_⟩; replace HO267 := am (Kd.R_below (rR HO267) hb); replace BK262 := bk BK262 hb; replace HB := bs hb; (try clear hb)))
   go_ret2
   exact ⟨eq', bq⟩
end Go.Proofs.YtcoialpohgfikaaGreatDoor.C
