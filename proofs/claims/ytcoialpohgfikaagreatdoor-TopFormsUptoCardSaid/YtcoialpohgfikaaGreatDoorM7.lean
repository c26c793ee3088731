/- A part of the proof of TopForms, made short by a program. -/
import Derived.Test.YtcoialpohgfikaaGreatDoorM2
import Derived.Test.YtcoialpohgfikaaGreatDoorM3
import Derived.Test.YtcoialpohgfikaaGreatDoorM4
import Derived.Test.YtcoialpohgfikaaGreatDoorM6
namespace Go.Proofs.YtcoialpohgfikaaGreatDoor.C
open Go.RowKit Go.Proofs.YtcoialpohgfikaaGreatDoorW.PrintWords Go.Proofs.YtcoialpohgfikaaGreatDoorW.PrintLast Go.Proofs.YtcoialpohgfikaaGreatDoorW.PrintMore
attribute [local go_sem] max2_int min2_int max_two min_two max_three min_three max_four min_four
set_option linter.unusedVariables false
set_option maxHeartbeats 8000000
set_option maxRecDepth 100000
set_option linter.unusedSimpArgs false
theorem rewrite_result.calls (k : Nat) (a0_0 : Int) (a0_1 : ByteArray) (A0_2 : Option Addr) (c0_2 : Nat) (l0_2 : List (S91)) (A0_3 : Option Addr) (c0_3 : Nat) (l0_3 : List (S91)) (a0_4 : Bool) (a0_5 : Bool) (P1_ : Nat → Prop) (A1 : Option Addr) (c1 : Nat) (l1 : List Int) (a2 : ByteArray) (r : ByteArray) (w : World) (hr0_2 : Kd.C k91 w A0_2 l0_2.length l0_2) (hc0_2 : l0_2.length ≤ c0_2) (hr0_3 : Kd.C k91 w A0_3 l0_3.length l0_3) (hc0_3 : l0_3.length ≤ c0_3) (hs1 : Kd.V (Kd.int .i64) 3 w w.heap.size (fun k_ => P1_ k_) (.slice A1 l1.length c1) l1) (h : rewrite_result.f k a0_0 a0_1 l0_2 l0_3 a0_4 a0_5 l1 a2 = some r) :
  Calls Tryz.prog 74 #[.agg #[.int .i32 a0_0, .string a0_1, .slice A0_2 l0_2.length c0_2, .slice A0_3 l0_3.length c0_3, .bool a0_4, .bool a0_5], .slice A1 l1.length c1, .string a2] w fun e w' => e = .returned (.string r) ∧ Below w.heap.size w w' := by
 have hu89 := Tryz.underlying89
 have HR0_2 := am hr0_2
 have HC0_2 := am hc0_2
 clear hr0_2 hc0_2
 have HR0_3 := am hr0_3
 have HC0_3 := am hc0_3
 clear hr0_3 hc0_3
 have HO1 := am (show Kd.V (Kd.int .i64) 3 w w.heap.size (fun k_ => (P1_ k_ ∨ w.heap.size ≤ k_)) (.slice A1 l1.length c1) l1 from Kd.V_mono hs1 (fun k_ hk => .inl hk))
 have HB := am (Below.refl w.heap.size w)
 have H : (if a2.size ≤ 70368744177664 then (if a0_1.size ≤ 70368744177664 then (rewrite_result.l0 k l1 (rns a2) (rns a0_1) ([] : List Int) 0 a0_0 a0_1 l0_2 l0_3 a0_4 a0_5) else (none)) else (none)) = some r := h
 clear h
 by_cases c4 : a2.size ≤ 70368744177664
 ·rw [if_pos c4] at H
  have c4b0 := eq_true c4
  have c4b1 : decide (a2.size ≤ 70368744177664) = true := decide_eq_true c4
  clear c4
  obtain ⟨y172, hy172⟩ : ∃ y_ : List Int, y_ = (rns a2) := ⟨_, rfl⟩
  replace H : (if a0_1.size ≤ 70368744177664 then (rewrite_result.l0 k l1 y172 (rns a0_1) ([] : List Int) 0 a0_0 a0_1 l0_2 l0_3 a0_4 a0_5) else (none)) = some r := by first | (rw [hy172]; with_reducible exact H) | (have H2_ := (Option.bind_some _ _).symm.trans H; rw [hy172]; with_reducible exact H2_) | (have H2_ := (Option.bind_some _ _).symm.trans H; with_reducible exact H2_) | with_reducible exact H | (rw [hy172]; exact H) | exact H
  have Ny172 := am hy172
  clear hy172
  by_cases c5 : a0_1.size ≤ 70368744177664
  ·rw [if_pos c5] at H
   have c5b0 := eq_true c5
   have c5b1 : decide (a0_1.size ≤ 70368744177664) = true := decide_eq_true c5
   clear c5
   obtain ⟨y175, hy175⟩ : ∃ y_ : List Int, y_ = (rns a0_1) := ⟨_, rfl⟩
   replace H : (rewrite_result.l0 k l1 y172 y175 ([] : List Int) 0 a0_0 a0_1 l0_2 l0_3 a0_4 a0_5) = some r := by first | (rw [hy175]; with_reducible exact H) | (have H2_ := (Option.bind_some _ _).symm.trans H; rw [hy175]; with_reducible exact H2_) | (have H2_ := (Option.bind_some _ _).symm.trans H; with_reducible exact H2_) | with_reducible exact H | (rw [hy175]; exact H) | exact H
   have Ny175 := am hy175
   clear hy175
   have H' := am H
   clear H
   go_enter Tryz.func74, Tryz.ntmps74
   go_wp2_with (first | ((with_reducible refine gate_dst (N := 3) rfl ?_); refine bx 3 #[.int .i32 a0_0, .string a0_1, .slice A0_2 l0_2.length c0_2, .slice A0_3 l0_3.length c0_3, .bool a0_4, .bool a0_5] 89 ?_; intro gb171 hg w6 hbox hb; have BK171 := am hbox; have GE171 := sz hg; replace HO1 := am (Kd.V_below (Kd.V_elderB (rV HO1) gb171 (Nat.le_of_eq hg.symm)) hb); replace HB := bs hb; clear hb hbox hg) | ((with_reducible refine gate_dst (N := 13) rfl ?_); refine Kd.R_runes _ 21 rfl (N := 13) rfl 9 164 _ rfl a2 rfl Tryz.underlying9 Tryz.underlying164 Tryz.underlying21 (oq) (ok := fun _ => True) (okp := fun _ => True) (fun _ hk => hk) trivial (Below.refl _ _) (Nat.le_refl _) ?_; intro v173 w7 ho8 hb hg_ hnew_; clear hg_ hnew_; (first | rw [← Ny172.out] at ho8 | (simp only [Int.reduceToNat] at ho8; rw [← Ny172.out] at ho8)); have HO174 := am (Kd.R_lower (Kd.R_newM (M := fun k_ => (w.heap.size ≤ k_)) ho8 (below_size bq) (fun k_ h_ => h_)) (below_size bq)); replace HO1 := am (Kd.V_elder' (rV HO1) (Kd.R_base ho8) hb); replace BK171 := bk BK171 hb; replace HB := bs hb; clear hb ho8; obtain ⟨zaa, zab, zac, zad, zae, zaf, zag, zah, zai, zaj, zak, zal⟩ := bc6 BK171) | ((with_reducible refine gate_dst (N := 16) rfl ?_); refine Kd.R_runes _ 21 rfl (N := 16) rfl 9 164 _ rfl a0_1 rfl Tryz.underlying9 Tryz.underlying164 Tryz.underlying21 (oq) (ok := fun _ => True) (okp := fun _ => True) (fun _ hk => hk) trivial (Below.refl _ _) (Nat.le_refl _) ?_; intro v176 w10 ho11 hb hg_ hnew_; clear hg_ hnew_; (first | rw [← Ny175.out] at ho11 | (simp only [Int.reduceToNat] at ho11; rw [← Ny175.out] at ho11)); have HO177 := am (Kd.R_lower (Kd.R_new' (Kd.R_newM (M := fun k_ => (w.heap.size ≤ k_)) ho11 (below_size bq) (fun k_ h_ => h_)) (Kd.R_lt (rR HO174))) (below_size bq)); replace HO1 := am (Kd.V_elder' (rV HO1) (Kd.R_base ho11) hb); replace HO174 := am (Kd.R_elder' (rR HO174) (Kd.R_base ho11) hb); replace BK171 := bk BK171 hb; replace HB := bs hb; clear hb ho11))
   go_loopg [1, 9, 10] k (fun kq v1 v9 v10 w' => ∃ (x1_1 : List Int) (x9_1 : List Int) (x10_1 : Int), v10 = .int .i64 x10_1 ∧ Aside0 (rewrite_result.l0 kq x1_1 y172 y175 x9_1 x10_1 a0_0 a0_1 l0_2 l0_3 a0_4 a0_5 = some r) ∧ Aside0 (kq ≤ k) ∧ Aside0 (Kd.V (Kd.int .i64) 3 w' w.heap.size (fun k_ => (P1_ k_ ∨ w.heap.size ≤ k_) ∧ some k_ ≠ (v173 : Value).ownBlock ∧ some k_ ≠ (v176 : Value).ownBlock ∧ some k_ ≠ (v9 : Value).ownBlock ∧ k_ ≠ gb171) v1 x1_1) ∧ Aside0 (Kd.R (Kd.int .i32) 21 w' w.heap.size (fun k_ => (w.heap.size ≤ k_) ∧ some k_ ≠ (v176 : Value).ownBlock ∧ some k_ ≠ (v9 : Value).ownBlock) v173 y172) ∧ Aside0 (Kd.R (Kd.int .i32) 21 w' w.heap.size (fun k_ => (w.heap.size ≤ k_) ∧ some k_ ≠ (v173 : Value).ownBlock ∧ some k_ ≠ (v9 : Value).ownBlock) v176 y175) ∧ Aside0 (Kd.R (Kd.int .i32) 21 w' w.heap.size (fun k_ => (w.heap.size ≤ k_) ∧ some k_ ≠ (v173 : Value).ownBlock ∧ some k_ ≠ (v176 : Value).ownBlock) v9 x9_1) ∧ Aside0 (w'.heap[gb171]? = some (.cells #[.int .i32 a0_0, .string a0_1, (.slice A0_2 l0_2.length c0_2), (.slice A0_3 l0_3.length c0_3), .bool a0_4, .bool a0_5] 89 (0, 0))) ∧ Aside0 (Below w.heap.size w w'))
   case atStart => exact ⟨(l1), (([] : List Int)), (0), rq, H', ⟨Nat.le_refl _⟩, ⟨rW (Kd.V_mono HO1.out (fun _ hk => ⟨hk.1.1.1, ⟨hk.1.2, ⟨hk.2, ⟨(by simp [Value.ownBlock]), hk.1.1.2⟩⟩⟩⟩))⟩, ⟨by (with_reducible repeat (first | apply Kd.R_alloc | apply Kd.R_drewN | apply Kd.R_drew)); exact Kd.R_mono HO174.out (fun _ hk => ⟨hk.1.1, ⟨hk.2, (by simp [Value.ownBlock])⟩⟩)⟩, ⟨by (with_reducible repeat (first | apply Kd.R_alloc | apply Kd.R_drewN | apply Kd.R_drew)); exact Kd.R_mono HO177.out (fun _ hk => ⟨hk.1.1, ⟨hk.2, (by simp [Value.ownBlock])⟩⟩)⟩, ⟨by first | exact Kd.R_nil _ _ _ _ _ | exact Kd.N_nil _ _ _ _ _ | exact Kd.V_nil _ _ _ _ _ | exact Kd.Q_nil _ _ _ _ _ | exact Kd.S_nil _ _ _ _ _⟩, ⟨bd BK171⟩, ⟨bq⟩⟩
   case round =>
    clear H'
    clear c4b0 c4b1 c5b0 c5b1 zaa zab zac zad zae zaf zag zah zai zaj zak zal
    obtain ⟨x1_1, x9_1, x10_1, rfl, HA, HK1, HO_1, HO_7, HO_8, HO_9, BK171, HB⟩ := hrel
    cases gk with
    | zero => exact absurd HA.out (by simp [rewrite_result.l0])
    | succ k1 =>
     have H := HA.out
     clear HA
     simp only [rewrite_result.l0] at H
     by_cases c12 : x10_1 ≤ (y172.length : Int)
     ·rw [if_pos c12] at H
      have c12b0 : decide (x10_1 ≤ (y172.length : Int)) = true := decide_eq_true c12
      clear c12
      have HC13 := am H
      clear H
      obtain ⟨Ao14, co14, eo14⟩ := Kd.R_slice HO_7.out
      subst eo14
      go_upto_region 7 with (fail)
      go_cut [11] (fun v11 wc => ∃ (kq : Nat) (x11_12 : Bool), v11 = .bool x11_12 ∧ Aside0 (rewrite_result.j1 kq x1_1 y172 y175 x9_1 x10_1 x11_12 a0_0 a0_1 l0_2 l0_3 a0_4 a0_5 = some r) ∧ Aside0 (kq ≤ k1) ∧ Aside0 (Kd.V (Kd.int .i64) 3 wc w.heap.size (fun k_ => (P1_ k_ ∨ w.heap.size ≤ k_) ∧ some k_ ≠ ((.slice Ao14 y172.length co14) : Value).ownBlock ∧ some k_ ≠ (v176 : Value).ownBlock ∧ some k_ ≠ (u9 : Value).ownBlock ∧ k_ ≠ gb171) u1 x1_1) ∧ Aside0 (Kd.R (Kd.int .i32) 21 wc w.heap.size (fun k_ => (w.heap.size ≤ k_) ∧ some k_ ≠ (v176 : Value).ownBlock ∧ some k_ ≠ (u9 : Value).ownBlock) (.slice Ao14 y172.length co14) y172) ∧ Aside0 (Kd.R (Kd.int .i32) 21 wc w.heap.size (fun k_ => (w.heap.size ≤ k_) ∧ some k_ ≠ ((.slice Ao14 y172.length co14) : Value).ownBlock ∧ some k_ ≠ (u9 : Value).ownBlock) v176 y175) ∧ Aside0 (Kd.R (Kd.int .i32) 21 wc w.heap.size (fun k_ => (w.heap.size ≤ k_) ∧ some k_ ≠ ((.slice Ao14 y172.length co14) : Value).ownBlock ∧ some k_ ≠ (v176 : Value).ownBlock) u9 x9_1) ∧ Aside0 (wc.heap[gb171]? = some (.cells #[.int .i32 a0_0, .string a0_1, (.slice A0_2 l0_2.length c0_2), (.slice A0_3 l0_3.length c0_3), .bool a0_4, .bool a0_5] 89 (0, 0))) ∧ Aside0 (Below w.heap.size w wc))
      case first =>
       have H := HC13.out
       clear HC13
       by_cases c15 : (x1_1.length : Int) > 0
       ·rw [if_pos c15] at H
        have c15b0 : decide (0 < (x1_1.length : Int)) = true := decide_eq_true c15
        have c15b1 : decide (0 < x1_1.length) = true := decide_eq_true (by omega)
        clear c15
        (first | rw [c15b0] | (simp only [i64_w, i32_w]; rw [c15b0]) | skip)
        by_cases c16 : 0 < (x1_1.length : Int)
        ·rw [if_pos c16] at H
         have c16b0 : decide (0 < (x1_1.length : Int)) = true := decide_eq_true c16
         have c16b1 : decide (0 < x1_1.length) = true := decide_eq_true (by omega)
         clear c16
         have H' := am H
         clear H
         obtain ⟨Ao17, co17, eo17⟩ := Kd.V_slice HO_1.out
         subst eo17
         have p178 : 0 ≤ (0 : Int) := (by omega)
         have q178 : 0 < (x1_1.length : Int) := oq
         obtain ⟨ad178, e178, hx178_0⟩ := Kd.at_int (Kd.V_reads' HO_1.out).2.2 0 p178 q178
         cases e178
         have qi178 : (0 < x1_1.length) = True := eq_true (by omega)
         (try rw [show ((0 : Int)).toNat = 0 from rfl] at hx178_0)
         (try rw [Addr.add_zero'] at hx178_0)
         replace p178 := eq_true p178
         replace q178 := eq_true q178
         go_wp2
         go_meet
         case rel => exact ⟨_, (((rd x1_1 0) == x10_1)), rq, H', ⟨by have := HK1.out; first | omega | exact Nat.le_refl _⟩, ⟨rV HO_1⟩, ⟨rR HO_7⟩, ⟨rR HO_8⟩, ⟨rR HO_9⟩, ⟨bd BK171⟩, ⟨bq⟩⟩
        rw [if_neg c16] at H
        exact absurd H (by simp)
       rw [if_neg c15] at H
       have c15b0 : decide (0 < (x1_1.length : Int)) = false := decide_eq_false c15
       have c15b1 : decide (0 < x1_1.length) = false := decide_eq_false (by omega)
       clear c15
       (first | rw [c15b0] | (simp only [i64_w, i32_w]; rw [c15b0]) | skip)
       have H' := am H
       clear H
       obtain ⟨Ao18, co18, eo18⟩ := Kd.V_slice HO_1.out
       subst eo18
       go_wp2
       go_meet
       case rel => exact ⟨_, (false), rq, H', ⟨by have := HK1.out; first | omega | exact Nat.le_refl _⟩, ⟨rV HO_1⟩, ⟨rR HO_7⟩, ⟨rR HO_8⟩, ⟨rR HO_9⟩, ⟨bd BK171⟩, ⟨bq⟩⟩
      case rest =>
       clear HC13 c12b0
       obtain ⟨kq, x11_12, rfl, HA, HJ12, HO_1, HO_7, HO_8, HO_9, BK171, HB⟩ := hcut
       cases kq with
       | zero => exact absurd HA.out (by simp [rewrite_result.j1])
       | succ kj12 =>
        have H := HA.out
        clear HA
        simp only [rewrite_result.j1] at H
        by_cases c19 : x11_12 = true
        ·subst c19
         rw [if_pos rfl] at H
         by_cases c20 : 1 ≤ (x1_1.length : Int)
         ·rw [if_pos c20] at H
          have c20b0 := eq_true c20
          have c20b1 : decide (1 ≤ (x1_1.length : Int)) = true := decide_eq_true c20
          clear c20
          obtain ⟨y179, hy179⟩ : ∃ y_ : List Int, y_ = (x1_1.drop 1) := ⟨_, rfl⟩
          replace H : (if x9_1.length + y175.length < 35184372088832 then ((some (x9_1 ++ y175 : List Int)).bind fun y184 => (if x10_1 < (y172.length : Int) then (if a0_0 = 0 then (if 0 ≤ x10_1 then (if y184.length < 35184372088832 then (rewrite_result.l0 kj12 y179 y172 y175 (y184 ++ [rd y172 x10_1]) (wrap64 (x10_1 + 1)) a0_0 a0_1 l0_2 l0_3 a0_4 a0_5) else (none)) else (none)) else (rewrite_result.l0 kj12 y179 y172 y175 y184 (wrap64 (x10_1 + 1)) a0_0 a0_1 l0_2 l0_3 a0_4 a0_5)) else (rewrite_result.l0 kj12 y179 y172 y175 y184 (wrap64 (x10_1 + 1)) a0_0 a0_1 l0_2 l0_3 a0_4 a0_5))) else (none)) = some r := by first | (rw [hy179]; with_reducible exact H) | (have H2_ := (Option.bind_some _ _).symm.trans H; rw [hy179]; with_reducible exact H2_) | (have H2_ := (Option.bind_some _ _).symm.trans H; with_reducible exact H2_) | with_reducible exact H | (rw [hy179]; exact H) | exact H
          have Ny179 := am hy179
          clear hy179
          by_cases c21 : x9_1.length + y175.length < 35184372088832
          ·rw [if_pos c21] at H
           have LMc21 := am c21
           clear c21
           obtain ⟨y184, hy184⟩ : ∃ y_ : List Int, y_ = (x9_1 ++ y175) := ⟨_, rfl⟩
           replace H : (if x10_1 < (y172.length : Int) then (if a0_0 = 0 then (if 0 ≤ x10_1 then (if y184.length < 35184372088832 then (rewrite_result.l0 kj12 y179 y172 y175 (y184 ++ [rd y172 x10_1]) (wrap64 (x10_1 + 1)) a0_0 a0_1 l0_2 l0_3 a0_4 a0_5) else (none)) else (none)) else (rewrite_result.l0 kj12 y179 y172 y175 y184 (wrap64 (x10_1 + 1)) a0_0 a0_1 l0_2 l0_3 a0_4 a0_5)) else (rewrite_result.l0 kj12 y179 y172 y175 y184 (wrap64 (x10_1 + 1)) a0_0 a0_1 l0_2 l0_3 a0_4 a0_5)) = some r := by first | (rw [hy184]; with_reducible exact H) | (have H2_ := (Option.bind_some _ _).symm.trans H; rw [hy184]; with_reducible exact H2_) | (have H2_ := (Option.bind_some _ _).symm.trans H; with_reducible exact H2_) | with_reducible exact H | (rw [hy184]; exact H) | exact H
           have Ny184 := am hy184
           clear hy184
           by_cases c22 : x10_1 < (y172.length : Int)
           ·rw [if_pos c22] at H
            have c22b0 : decide (x10_1 < (y172.length : Int)) = true := decide_eq_true c22
            clear c22
            by_cases c23 : a0_0 = 0
            ·rw [if_pos c23] at H
             have c23b0 : (a0_0 == 0) = true := beq_iff_eq.mpr c23
             have c23b1 : (a0_0 != 0) = false := bne_eq_false_iff_eq.mpr c23
             clear c23
             by_cases c24 : 0 ≤ x10_1
             ·rw [if_pos c24] at H
              have c24b0 : decide (0 ≤ x10_1) = true := decide_eq_true c24
              clear c24
              by_cases c25 : y184.length < 35184372088832
              ·rw [if_pos c25] at H
               have LMc25 := am c25
               clear c25
               obtain ⟨y188, hy188⟩ : ∃ y_ : List Int, y_ = (y184 ++ [rd y172 x10_1]) := ⟨_, rfl⟩
               replace H : (rewrite_result.l0 kj12 y179 y172 y175 y188 (wrap64 (x10_1 + 1)) a0_0 a0_1 l0_2 l0_3 a0_4 a0_5) = some r := by first | (rw [hy188]; with_reducible exact H) | (have H2_ := (Option.bind_some _ _).symm.trans H; rw [hy188]; with_reducible exact H2_) | (have H2_ := (Option.bind_some _ _).symm.trans H; with_reducible exact H2_) | with_reducible exact H | (rw [hy188]; exact H) | exact H
               have Ny188 := am hy188
               clear hy188
               have H' := am H
               clear H
               obtain ⟨Ao27, co27, eo27⟩ := Kd.V_slice HO_1.out
               subst eo27
               have q26 : (1 : Int) ≤ ((x1_1.length : Int) : Int) := oq
               obtain ⟨i026, hi026, _, hsz26, _⟩ := info_parts info3
               have hroom26 : x1_1.length ≤ co27 := (Kd.V_reads' HO_1.out).2.1
               have hC26 : Kd.F (Kd.int .i64) _ _ Ao27 x1_1.length x1_1 := (Kd.V_at (base := w.heap.size) HO_1.out).2.2
               have hcut26 := cut_from (P := Tryz.prog) 145 3 .i64 Tryz.underlying145 hi026 1 hsz26 Ao27 x1_1.length co27 1 (by omega) q26
               have hr26 := Kd.F_cut (m := (1 : Int).toNat) (c := co27) hC26 (by omega) hroom26
               obtain ⟨A26, hA26⟩ : ∃ A1, A1 = (if co27 = (1 : Int).toNat then Ao27 else (Ao27 : Option Addr).map (·.add ((1 : Int).toNat * 1))) := ⟨_, rfl⟩
               obtain ⟨c26, hc26⟩ : ∃ c1, c1 = co27 - (1 : Int).toNat := ⟨_, rfl⟩
               have hy26 : y179.length = x1_1.length - (1 : Int).toNat := (by rw [Ny179.out, List.length_drop] <;> omega)
               rw [show (x1_1).drop (1 : Int).toNat = y179 from Ny179.out.symm] at hr26
               replace hr26 : Kd.F (Kd.int .i64) _ _ A26 y179.length y179 := (by rw [hA26]; exact hr26)
               rw [← hy26, ← hA26, ← hc26] at hcut26
               have HO183 := am (show Kd.V (Kd.int .i64) 3 _ w.heap.size _ (.slice A26 y179.length c26) y179 from Kd.V_mk (by rw [hy26, hc26]; exact Nat.sub_le_sub_right hroom26 _) hr26)
               have HC183 := am (show y179.length ≤ c26 from by rw [hy26, hc26]; exact Nat.sub_le_sub_right hroom26 _)
               clear hr26 hC26 hroom26 hi026 hsz26 hc26
               have KY26 := am hy26
               have KA26 := am hA26
               clear hy26 hA26
               replace q26 := eq_true q26
               obtain ⟨Ao29, co29, eo29⟩ := Kd.R_slice HO_8.out
               subst eo29
               go_wp2_with (first | ((with_reducible refine gate_builtin (b := .append) (xs := #[.tmp 36, .tmp 37]) rfl ?_); at_builtin; refine Kd.R_append_rows (Kd.int .i32) (w0 := w) w.heap.size rfl (.tmp 36) (.tmp 37) 164 21 (.int .i32 0) 4 rfl Tryz.underlying164 info21 rfl (by decide) (by omega) u9 x9_1 y175 _ _ _ (fun k_ => (w.heap.size ≤ k_) ∧ some k_ ≠ (.slice Ao14 y172.length co14 : Value).ownBlock ∧ some k_ ≠ (.slice Ao29 y175.length co29 : Value).ownBlock) (fun _ => False) rfl rfl ?aO ?aR (fun _ _ h => h) (fun _ h => h.elim) ?aF ?aB ?aS ?aL ?_; (case aR => repeat (first | exact (Kd.R_reads' HO_8.out).2.2 | (with_reducible refine Kd.C_alloc ?_ _) | (with_reducible refine Kd.C_drewN ?_ _) | (with_reducible refine Kd.C_drew ?_))); (case aB => exact bq); (case aF => exact (fun k_ hk => ⟨(Nat.le_trans (below_size bq) hk), Kd.fresh' (Kd.R_lt (rR HO_7)) k_ hk, Kd.fresh' (Kd.R_lt (rR HO_8)) k_ hk⟩)); (case aO => exact (rR HO_9)); (case aS => exact (below_size bq)); (case aL => have := LMc21.out; omega); intro v185 w28 ho hb hg hat; rw [← Ny184.out] at ho; have n0_ := am (Kd.V_afterv (ok := (fun k_ => (P1_ k_ ∨ w.heap.size ≤ k_) ∧ some k_ ≠ (.slice Ao14 y172.length co14 : Value).ownBlock ∧ some k_ ≠ (.slice Ao29 y175.length co29 : Value).ownBlock ∧ k_ ≠ gb171)) (rW (Kd.V_mono HO_1.out (fun _ hk => ⟨⟨hk.1, ⟨hk.2.1, ⟨hk.2.2.1, hk.2.2.2.2⟩⟩⟩, hk.2.2.2.1⟩))) hg hat); have n1_ := am (Kd.R_after (ok := (fun k_ => (w.heap.size ≤ k_) ∧ some k_ ≠ (.slice Ao29 y175.length co29 : Value).ownBlock)) (by (with_reducible repeat (first | apply Kd.R_alloc | apply Kd.R_drewN | apply Kd.R_drew)); exact Kd.R_mono HO_7.out (fun _ hk => ⟨⟨hk.1, hk.2.1⟩, hk.2.2⟩)) hg hat); have n2_ := am (Kd.R_after (ok := (fun k_ => (w.heap.size ≤ k_) ∧ some k_ ≠ (.slice Ao14 y172.length co14 : Value).ownBlock)) (by (with_reducible repeat (first | apply Kd.R_alloc | apply Kd.R_drewN | apply Kd.R_drew)); exact Kd.R_mono HO_8.out (fun _ hk => ⟨⟨hk.1, hk.2.1⟩, hk.2.2⟩)) hg hat); have n3_ := am (blk_grown (g := gb171) (o := .cells #[.int .i32 a0_0, .string a0_1, .slice A0_2 l0_2.length c0_2, .slice A0_3 l0_3.length c0_3, .bool a0_4, .bool a0_5] 89 (0, 0)) (bd BK171) hg (Kd.R_ne HO_9.out BK171.out (by decide))); have n4_ := am (Kd.V_afterv (ok := (fun k_ => (P1_ k_ ∨ w.heap.size ≤ k_) ∧ some k_ ≠ (.slice Ao14 y172.length co14 : Value).ownBlock ∧ some k_ ≠ (.slice Ao29 y175.length co29 : Value).ownBlock ∧ k_ ≠ gb171)) (rW (Kd.V_mono HO183.out (fun _ hk => ⟨⟨hk.1, ⟨hk.2.1, ⟨hk.2.2.1, hk.2.2.2.2⟩⟩⟩, hk.2.2.2.1⟩))) hg hat); have n5_ := am (hb); have n6_ := am (ho); clear HO_1; clear HO_7; clear HO_8; clear BK171; clear HO183; clear HB; clear HO_9; have HO_1 := n0_; have HO_7 := n1_; have HO_8 := n2_; have BK171 := n3_; have HO183 := n4_; have HB := n5_; have HO186 := n6_; clear n0_ n1_ n2_ n3_ n4_ n5_ n6_; clear ho hb hg hat; obtain ⟨zam, zan, zao, zap, zaq, zar, zas, zat, zau, zav, zaw, zax⟩ := bc6 BK171; have p187 : 0 ≤ (x10_1 : Int) := oq; have q187 : x10_1 < (y172.length : Int) := oq; obtain ⟨ad187, e187, hx187_0⟩ := Kd.at_int (Kd.R_reads' HO_7.out).2.2 x10_1 p187 q187; cases e187; replace p187 := eq_true p187; replace q187 := eq_true q187) | ((with_reducible refine gate_builtin (b := .append) (xs := #[.tmp 52, .tmp 57]) rfl ?_); at_builtin; refine Kd.R_append (Kd.int .i32) (w0 := w) w.heap.size rfl (.tmp 52) (.tmp 57) 164 21 (.int .i32 0) 4 rfl Tryz.underlying164 info21 rfl (by decide) (by omega) v185 y184 (rd y172 x10_1) [.int .i32 (rd y172 x10_1)] (fun k_ => (w.heap.size ≤ k_) ∧ some k_ ≠ (.slice (some ad187) y172.length co14 : Value).ownBlock ∧ some k_ ≠ (.slice Ao29 y175.length co29 : Value).ownBlock) (fun _ => False) rfl rfl ?aP (fun _ hk => hk.elim) ?aF ?aO ?aB ?aS ?aL ?_; (case aP => exact rfl); (case aB => exact bq); (case aF => exact (fun k_ hk => ⟨(Nat.le_trans (below_size bq) hk), Kd.fresh' (Kd.R_lt (rR HO_7)) k_ hk, Kd.fresh' (Kd.R_lt (rR HO_8)) k_ hk⟩)); (case aO => exact (rR HO186)); (case aS => exact (below_size bq)); (case aL => have := LMc25.out; omega); intro v189 w31 ho hb hg hat; rw [← Ny188.out] at ho; have n0_ := am (Kd.V_afterv (ok := (fun k_ => (P1_ k_ ∨ w.heap.size ≤ k_) ∧ some k_ ≠ (.slice (some ad187) y172.length co14 : Value).ownBlock ∧ some k_ ≠ (.slice Ao29 y175.length co29 : Value).ownBlock ∧ k_ ≠ gb171)) (rV HO_1) hg hat); have n1_ := am (Kd.R_after (ok := (fun k_ => (w.heap.size ≤ k_) ∧ some k_ ≠ (.slice Ao29 y175.length co29 : Value).ownBlock)) (rR HO_7) hg hat); have n2_ := am (Kd.R_after (ok := (fun k_ => (w.heap.size ≤ k_) ∧ some k_ ≠ (.slice (some ad187) y172.length co14 : Value).ownBlock)) (rR HO_8) hg hat); have n3_ := am (blk_grown (g := gb171) (o := .cells #[.int .i32 a0_0, .string a0_1, .slice A0_2 l0_2.length c0_2, .slice A0_3 l0_3.length c0_3, .bool a0_4, .bool a0_5] 89 (0, 0)) (bd BK171) hg (Kd.R_ne HO186.out BK171.out (by decide))); have n4_ := am (Kd.V_afterv (ok := (fun k_ => (P1_ k_ ∨ w.heap.size ≤ k_) ∧ some k_ ≠ (.slice (some ad187) y172.length co14 : Value).ownBlock ∧ some k_ ≠ (.slice Ao29 y175.length co29 : Value).ownBlock ∧ k_ ≠ gb171)) (rV HO183) hg hat); have n5_ := am (hb); have n6_ := am (ho); clear HO_1; clear HO_7; clear HO_8; clear BK171; clear HO183; clear HB; clear HO186; have HO_1 := n0_; have HO_7 := n1_; have HO_8 := n2_; have BK171 := n3_; have HO183 := n4_; have HB := n5_; have HO190 := n6_; clear n0_ n1_ n2_ n3_ n4_ n5_ n6_; clear ho hb hg hat))
               go_roundg kj12
               case measure => have := HK1.out; have := HJ12.out; omega
               case rel => exact ⟨(y179), (y188), (wrap64 (x10_1 + 1)), rq, H', ⟨by have := HK1.out; have := HJ12.out; omega⟩, ⟨rW (Kd.V_mono HO183.out (fun _ hk => ⟨hk.1.1, ⟨hk.1.2.1, ⟨hk.1.2.2.1, ⟨hk.2, hk.1.2.2.2⟩⟩⟩⟩))⟩, ⟨by (with_reducible repeat (first | apply Kd.R_alloc | apply Kd.R_drewN | apply Kd.R_drew)); exact Kd.R_mono HO_7.out (fun _ hk => ⟨hk.1.1, ⟨hk.1.2, hk.2⟩⟩)⟩, ⟨by (with_reducible repeat (first | apply Kd.R_alloc | apply Kd.R_drewN | apply Kd.R_drew)); exact Kd.R_mono HO_8.out (fun _ hk => ⟨hk.1.1, ⟨hk.1.2, hk.2⟩⟩)⟩, ⟨rR HO190⟩, ⟨bd BK171⟩, ⟨bq⟩⟩
              rw [if_neg c25] at H
              exact absurd H (by simp)
             rw [if_neg c24] at H
             exact absurd H (by simp)
            rw [if_neg c23] at H
            have c23b0 : (a0_0 == 0) = false := beq_eq_false_iff_ne.mpr c23
            have c23b1 : (a0_0 != 0) = true := bne_iff_ne.mpr c23
            have H' := am H
            clear H
            obtain ⟨Ao33, co33, eo33⟩ := Kd.V_slice HO_1.out
            subst eo33
            have q32 : (1 : Int) ≤ ((x1_1.length : Int) : Int) := oq
            obtain ⟨i032, hi032, _, hsz32, _⟩ := info_parts info3
            have hroom32 : x1_1.length ≤ co33 := (Kd.V_reads' HO_1.out).2.1
            have hC32 : Kd.F (Kd.int .i64) _ _ Ao33 x1_1.length x1_1 := (Kd.V_at (base := w.heap.size) HO_1.out).2.2
            have hcut32 := cut_from (P := Tryz.prog) 145 3 .i64 Tryz.underlying145 hi032 1 hsz32 Ao33 x1_1.length co33 1 (by omega) q32
            have hr32 := Kd.F_cut (m := (1 : Int).toNat) (c := co33) hC32 (by omega) hroom32
            obtain ⟨A32, hA32⟩ : ∃ A1, A1 = (if co33 = (1 : Int).toNat then Ao33 else (Ao33 : Option Addr).map (·.add ((1 : Int).toNat * 1))) := ⟨_, rfl⟩
            obtain ⟨c32, hc32⟩ : ∃ c1, c1 = co33 - (1 : Int).toNat := ⟨_, rfl⟩
            have hy32 : y179.length = x1_1.length - (1 : Int).toNat := (by rw [Ny179.out, List.length_drop] <;> omega)
            rw [show (x1_1).drop (1 : Int).toNat = y179 from Ny179.out.symm] at hr32
            replace hr32 : Kd.F (Kd.int .i64) _ _ A32 y179.length y179 := (by rw [hA32]; exact hr32)
            rw [← hy32, ← hA32, ← hc32] at hcut32
            have HO183 := am (show Kd.V (Kd.int .i64) 3 _ w.heap.size _ (.slice A32 y179.length c32) y179 from Kd.V_mk (by rw [hy32, hc32]; exact Nat.sub_le_sub_right hroom32 _) hr32)
            have HC183 := am (show y179.length ≤ c32 from by rw [hy32, hc32]; exact Nat.sub_le_sub_right hroom32 _)
            clear hr32 hC32 hroom32 hi032 hsz32 hc32
            have KY32 := am hy32
            have KA32 := am hA32
            clear hy32 hA32
            replace q32 := eq_true q32
            obtain ⟨Ao35, co35, eo35⟩ := Kd.R_slice HO_8.out
            subst eo35
            go_wp2_with (first | ((with_reducible refine gate_builtin (b := .append) (xs := #[.tmp 36, .tmp 37]) rfl ?_); at_builtin; refine Kd.R_append_rows (Kd.int .i32) (w0 := w) w.heap.size rfl (.tmp 36) (.tmp 37) 164 21 (.int .i32 0) 4 rfl Tryz.underlying164 info21 rfl (by decide) (by omega) u9 x9_1 y175 _ _ _ (fun k_ => (w.heap.size ≤ k_) ∧ some k_ ≠ (.slice Ao14 y172.length co14 : Value).ownBlock ∧ some k_ ≠ (.slice Ao35 y175.length co35 : Value).ownBlock) (fun _ => False) rfl rfl ?aO ?aR (fun _ _ h => h) (fun _ h => h.elim) ?aF ?aB ?aS ?aL ?_; (case aR => repeat (first | exact (Kd.R_reads' HO_8.out).2.2 | (with_reducible refine Kd.C_alloc ?_ _) | (with_reducible refine Kd.C_drewN ?_ _) | (with_reducible refine Kd.C_drew ?_))); (case aB => exact bq); (case aF => exact (fun k_ hk => ⟨(Nat.le_trans (below_size bq) hk), Kd.fresh' (Kd.R_lt (rR HO_7)) k_ hk, Kd.fresh' (Kd.R_lt (rR HO_8)) k_ hk⟩)); (case aO => exact (rR HO_9)); (case aS => exact (below_size bq)); (case aL => have := LMc21.out; omega); intro v185 w34 ho hb hg hat; rw [← Ny184.out] at ho; have n0_ := am (Kd.V_afterv (ok := (fun k_ => (P1_ k_ ∨ w.heap.size ≤ k_) ∧ some k_ ≠ (.slice Ao14 y172.length co14 : Value).ownBlock ∧ some k_ ≠ (.slice Ao35 y175.length co35 : Value).ownBlock ∧ k_ ≠ gb171)) (rW (Kd.V_mono HO_1.out (fun _ hk => ⟨⟨hk.1, ⟨hk.2.1, ⟨hk.2.2.1, hk.2.2.2.2⟩⟩⟩, hk.2.2.2.1⟩))) hg hat); have n1_ := am (Kd.R_after (ok := (fun k_ => (w.heap.size ≤ k_) ∧ some k_ ≠ (.slice Ao35 y175.length co35 : Value).ownBlock)) (by (with_reducible repeat (first | apply Kd.R_alloc | apply Kd.R_drewN | apply Kd.R_drew)); exact Kd.R_mono HO_7.out (fun _ hk => ⟨⟨hk.1, hk.2.1⟩, hk.2.2⟩)) hg hat); have n2_ := am (Kd.R_after (ok := (fun k_ => (w.heap.size ≤ k_) ∧ some k_ ≠ (.slice Ao14 y172.length co14 : Value).ownBlock)) (by (with_reducible repeat (first | apply Kd.R_alloc | apply Kd.R_drewN | apply Kd.R_drew)); exact Kd.R_mono HO_8.out (fun _ hk => ⟨⟨hk.1, hk.2.1⟩, hk.2.2⟩)) hg hat); have n3_ := am (blk_grown (g := gb171) (o := .cells #[.int .i32 a0_0, .string a0_1, .slice A0_2 l0_2.length c0_2, .slice A0_3 l0_3.length c0_3, .bool a0_4, .bool a0_5] 89 (0, 0)) (bd BK171) hg (Kd.R_ne HO_9.out BK171.out (by decide))); have n4_ := am (Kd.V_afterv (ok := (fun k_ => (P1_ k_ ∨ w.heap.size ≤ k_) ∧ some k_ ≠ (.slice Ao14 y172.length co14 : Value).ownBlock ∧ some k_ ≠ (.slice Ao35 y175.length co35 : Value).ownBlock ∧ k_ ≠ gb171)) (rW (Kd.V_mono HO183.out (fun _ hk => ⟨⟨hk.1, ⟨hk.2.1, ⟨hk.2.2.1, hk.2.2.2.2⟩⟩⟩, hk.2.2.2.1⟩))) hg hat); have n5_ := am (hb); have n6_ := am (ho); clear HO_1; clear HO_7; clear HO_8; clear BK171; clear HO183; clear HB; clear HO_9; have HO_1 := n0_; have HO_7 := n1_; have HO_8 := n2_; have BK171 := n3_; have HO183 := n4_; have HB := n5_; have HO186 := n6_; clear n0_ n1_ n2_ n3_ n4_ n5_ n6_; clear ho hb hg hat; obtain ⟨zay, zaz, zba, zbb, zbc, zbd, zbe, zbf, zbg, zbh, zbi, zbj⟩ := bc6 BK171))
            go_roundg kj12
            case measure => have := HK1.out; have := HJ12.out; omega
            case rel => exact ⟨(y179), (y184), (wrap64 (x10_1 + 1)), rq, H', ⟨by have := HK1.out; have := HJ12.out; omega⟩, ⟨rW (Kd.V_mono HO183.out (fun _ hk => ⟨hk.1.1, ⟨hk.1.2.1, ⟨hk.1.2.2.1, ⟨hk.2, hk.1.2.2.2⟩⟩⟩⟩))⟩, ⟨by (with_reducible repeat (first | apply Kd.R_alloc | apply Kd.R_drewN | apply Kd.R_drew)); exact Kd.R_mono HO_7.out (fun _ hk => ⟨hk.1.1, ⟨hk.1.2, hk.2⟩⟩)⟩, ⟨by (with_reducible repeat (first | apply Kd.R_alloc | apply Kd.R_drewN | apply Kd.R_drew)); exact Kd.R_mono HO_8.out (fun _ hk => ⟨hk.1.1, ⟨hk.1.2, hk.2⟩⟩)⟩, ⟨rR HO186⟩, ⟨bd BK171⟩, ⟨bq⟩⟩
           rw [if_neg c22] at H
           have c22b0 : decide (x10_1 < (y172.length : Int)) = false := decide_eq_false c22
           clear c22
           have H' := am H
           clear H
           obtain ⟨Ao38, co38, eo38⟩ := Kd.V_slice HO_1.out
           subst eo38
           have q37 : (1 : Int) ≤ ((x1_1.length : Int) : Int) := oq
           obtain ⟨i037, hi037, _, hsz37, _⟩ := info_parts info3
           have hroom37 : x1_1.length ≤ co38 := (Kd.V_reads' HO_1.out).2.1
           have hC37 : Kd.F (Kd.int .i64) _ _ Ao38 x1_1.length x1_1 := (Kd.V_at (base := w.heap.size) HO_1.out).2.2
           have hcut37 := cut_from (P := Tryz.prog) 145 3 .i64 Tryz.underlying145 hi037 1 hsz37 Ao38 x1_1.length co38 1 (by omega) q37
           have hr37 := Kd.F_cut (m := (1 : Int).toNat) (c := co38) hC37 (by omega) hroom37
           obtain ⟨A37, hA37⟩ : ∃ A1, A1 = (if co38 = (1 : Int).toNat then Ao38 else (Ao38 : Option Addr).map (·.add ((1 : Int).toNat * 1))) := ⟨_, rfl⟩
           obtain ⟨c37, hc37⟩ : ∃ c1, c1 = co38 - (1 : Int).toNat := ⟨_, rfl⟩
           have hy37 : y179.length = x1_1.length - (1 : Int).toNat := (by rw [Ny179.out, List.length_drop] <;> omega)
           rw [show (x1_1).drop (1 : Int).toNat = y179 from Ny179.out.symm] at hr37
           replace hr37 : Kd.F (Kd.int .i64) _ _ A37 y179.length y179 := (by rw [hA37]; exact hr37)
           rw [← hy37, ← hA37, ← hc37] at hcut37
           have HO183 := am (show Kd.V (Kd.int .i64) 3 _ w.heap.size _ (.slice A37 y179.length c37) y179 from Kd.V_mk (by rw [hy37, hc37]; exact Nat.sub_le_sub_right hroom37 _) hr37)
           have HC183 := am (show y179.length ≤ c37 from by rw [hy37, hc37]; exact Nat.sub_le_sub_right hroom37 _)
           clear hr37 hC37 hroom37 hi037 hsz37 hc37
           have KY37 := am hy37
           have KA37 := am hA37
           clear hy37 hA37
           replace q37 := eq_true q37
           obtain ⟨Ao40, co40, eo40⟩ := Kd.R_slice HO_8.out
           subst eo40
           go_wp2_with (first | ((with_reducible refine gate_builtin (b := .append) (xs := #[.tmp 36, .tmp 37]) rfl ?_); at_builtin; refine Kd.R_append_rows (Kd.int .i32) (w0 := w) w.heap.size rfl (.tmp 36) (.tmp 37) 164 21 (.int .i32 0) 4 rfl Tryz.underlying164 info21 rfl (by decide) (by omega) u9 x9_1 y175 _ _ _ (fun k_ => (w.heap.size ≤ k_) ∧ some k_ ≠ (.slice Ao14 y172.length co14 : Value).ownBlock ∧ some k_ ≠ (.slice Ao40 y175.length co40 : Value).ownBlock) (fun _ => False) rfl rfl ?aO ?aR (fun _ _ h => h) (fun _ h => h.elim) ?aF ?aB ?aS ?aL ?_; (case aR => repeat (first | exact (Kd.R_reads' HO_8.out).2.2 | (with_reducible refine Kd.C_alloc ?_ _) | (with_reducible refine Kd.C_drewN ?_ _) | (with_reducible refine Kd.C_drew ?_))); (case aB => exact bq); (case aF => exact (fun k_ hk => ⟨(Nat.le_trans (below_size bq) hk), Kd.fresh' (Kd.R_lt (rR HO_7)) k_ hk, Kd.fresh' (Kd.R_lt (rR HO_8)) k_ hk⟩)); (case aO => exact (rR HO_9)); (case aS => exact (below_size bq)); (case aL => have := LMc21.out; omega); intro v185 w39 ho hb hg hat; rw [← Ny184.out] at ho; have n0_ := am (Kd.V_afterv (ok := (fun k_ => (P1_ k_ ∨ w.heap.size ≤ k_) ∧ some k_ ≠ (.slice Ao14 y172.length co14 : Value).ownBlock ∧ some k_ ≠ (.slice Ao40 y175.length co40 : Value).ownBlock ∧ k_ ≠ gb171)) (rW (Kd.V_mono HO_1.out (fun _ hk => ⟨⟨hk.1, ⟨hk.2.1, ⟨hk.2.2.1, hk.2.2.2.2⟩⟩⟩, hk.2.2.2.1⟩))) hg hat); have n1_ := am (Kd.R_after (ok := (fun k_ => (w.heap.size ≤ k_) ∧ some k_ ≠ (.slice Ao40 y175.length co40 : Value).ownBlock)) (by (with_reducible repeat (first | apply Kd.R_alloc | apply Kd.R_drewN | apply Kd.R_drew)); exact Kd.R_mono HO_7.out (fun _ hk => ⟨⟨hk.1, hk.2.1⟩, hk.2.2⟩)) hg hat); have n2_ := am (Kd.R_after (ok := (fun k_ => (w.heap.size ≤ k_) ∧ some k_ ≠ (.slice Ao14 y172.length co14 : Value).ownBlock)) (by (with_reducible repeat (first | apply Kd.R_alloc | apply Kd.R_drewN | apply Kd.R_drew)); exact Kd.R_mono HO_8.out (fun _ hk => ⟨⟨hk.1, hk.2.1⟩, hk.2.2⟩)) hg hat); have n3_ := am (blk_grown (g := gb171) (o := .cells #[.int .i32 a0_0, .string a0_1, .slice A0_2 l0_2.length c0_2, .slice A0_3 l0_3.length c0_3, .bool a0_4, .bool a0_5] 89 (0, 0)) (bd BK171) hg (Kd.R_ne HO_9.out BK171.out (by decide))); have n4_ := am (Kd.V_afterv (ok := (fun k_ => (P1_ k_ ∨ w.heap.size ≤ k_) ∧ some k_ ≠ (.slice Ao14 y172.length co14 : Value).ownBlock ∧ some k_ ≠ (.slice Ao40 y175.length co40 : Value).ownBlock ∧ k_ ≠ gb171)) (rW (Kd.V_mono HO183.out (fun _ hk => ⟨⟨hk.1, ⟨hk.2.1, ⟨hk.2.2.1, hk.2.2.2.2⟩⟩⟩, hk.2.2.2.1⟩))) hg hat); have n5_ := am (hb); have n6_ := am (ho); clear HO_1; clear HO_7; clear HO_8; clear BK171; clear HO183; clear HB; clear HO_9; have HO_1 := n0_; have HO_7 := n1_; have HO_8 := n2_; have BK171 := n3_; have HO183 := n4_; have HB := n5_; have HO186 := n6_; clear n0_ n1_ n2_ n3_ n4_ n5_ n6_; clear ho hb hg hat))
           go_roundg kj12
           case measure => have := HK1.out; have := HJ12.out; omega
           case rel => exact ⟨(y179), (y184), (wrap64 (x10_1 + 1)), rq, H', ⟨by have := HK1.out; have := HJ12.out; omega⟩, ⟨rW (Kd.V_mono HO183.out (fun _ hk => ⟨hk.1.1, ⟨hk.1.2.1, ⟨hk.1.2.2.1, ⟨hk.2, hk.1.2.2.2⟩⟩⟩⟩))⟩, ⟨by (with_reducible repeat (first | apply Kd.R_alloc | apply Kd.R_drewN | apply Kd.R_drew)); exact Kd.R_mono HO_7.out (fun _ hk => ⟨hk.1.1, ⟨hk.1.2, hk.2⟩⟩)⟩, ⟨by (with_reducible repeat (first | apply Kd.R_alloc | apply Kd.R_drewN | apply Kd.R_drew)); exact Kd.R_mono HO_8.out (fun _ hk => ⟨hk.1.1, ⟨hk.1.2, hk.2⟩⟩)⟩, ⟨rR HO186⟩, ⟨bd BK171⟩, ⟨bq⟩⟩
          rw [if_neg c21] at H
          exact absurd H (by simp)
         rw [if_neg c20] at H
         exact absurd H (by simp)
        replace c19 := Bool.eq_false_iff.mpr c19
        subst c19
        rw [if_neg nf] at H
        by_cases c41 : x10_1 < (y172.length : Int)
        ·rw [if_pos c41] at H
         have c41b0 : decide (x10_1 < (y172.length : Int)) = true := decide_eq_true c41
         clear c41
         by_cases c42 : 0 ≤ x10_1
         ·rw [if_pos c42] at H
          have c42b0 : decide (0 ≤ x10_1) = true := decide_eq_true c42
          clear c42
          by_cases c43 : x9_1.length < 35184372088832
          ·rw [if_pos c43] at H
           have LMc43 := am c43
           clear c43
           obtain ⟨y192, hy192⟩ : ∃ y_ : List Int, y_ = (x9_1 ++ [rd y172 x10_1]) := ⟨_, rfl⟩
           replace H : (rewrite_result.l0 kj12 x1_1 y172 y175 y192 (wrap64 (x10_1 + 1)) a0_0 a0_1 l0_2 l0_3 a0_4 a0_5) = some r := by first | (rw [hy192]; with_reducible exact H) | (have H2_ := (Option.bind_some _ _).symm.trans H; rw [hy192]; with_reducible exact H2_) | (have H2_ := (Option.bind_some _ _).symm.trans H; with_reducible exact H2_) | with_reducible exact H | (rw [hy192]; exact H) | exact H
           have Ny192 := am hy192
           clear hy192
           have H' := am H
           clear H
           have p191 : 0 ≤ (x10_1 : Int) := oq
           have q191 : x10_1 < (y172.length : Int) := oq
           obtain ⟨ad191, e191, hx191_0⟩ := Kd.at_int (Kd.R_reads' HO_7.out).2.2 x10_1 p191 q191
           cases e191
           replace p191 := eq_true p191
           replace q191 := eq_true q191
           go_wp2_with (first | ((with_reducible refine gate_builtin (b := .append) (xs := #[.tmp 52, .tmp 57]) rfl ?_); at_builtin; refine Kd.R_append (Kd.int .i32) (w0 := w) w.heap.size rfl (.tmp 52) (.tmp 57) 164 21 (.int .i32 0) 4 rfl Tryz.underlying164 info21 rfl (by decide) (by omega) u9 x9_1 (rd y172 x10_1) [.int .i32 (rd y172 x10_1)] (fun k_ => (w.heap.size ≤ k_) ∧ some k_ ≠ (.slice (some ad191) y172.length co14 : Value).ownBlock ∧ some k_ ≠ (v176 : Value).ownBlock) (fun _ => False) rfl rfl ?aP (fun _ hk => hk.elim) ?aF ?aO ?aB ?aS ?aL ?_; (case aP => exact rfl); (case aB => exact bq); (case aF => exact (fun k_ hk => ⟨(Nat.le_trans (below_size bq) hk), Kd.fresh' (Kd.R_lt (rR HO_7)) k_ hk, Kd.fresh' (Kd.R_lt (rR HO_8)) k_ hk⟩)); (case aO => exact (rR HO_9)); (case aS => exact (below_size bq)); (case aL => have := LMc43.out; omega); intro v193 w44 ho hb hg hat; rw [← Ny192.out] at ho; have n0_ := am (Kd.V_afterv (ok := (fun k_ => (P1_ k_ ∨ w.heap.size ≤ k_) ∧ some k_ ≠ (.slice (some ad191) y172.length co14 : Value).ownBlock ∧ some k_ ≠ (v176 : Value).ownBlock ∧ k_ ≠ gb171)) (rW (Kd.V_mono HO_1.out (fun _ hk => ⟨⟨hk.1, ⟨hk.2.1, ⟨hk.2.2.1, hk.2.2.2.2⟩⟩⟩, hk.2.2.2.1⟩))) hg hat); have n1_ := am (Kd.R_after (ok := (fun k_ => (w.heap.size ≤ k_) ∧ some k_ ≠ (v176 : Value).ownBlock)) (by (with_reducible repeat (first | apply Kd.R_alloc | apply Kd.R_drewN | apply Kd.R_drew)); exact Kd.R_mono HO_7.out (fun _ hk => ⟨⟨hk.1, hk.2.1⟩, hk.2.2⟩)) hg hat); have n2_ := am (Kd.R_after (ok := (fun k_ => (w.heap.size ≤ k_) ∧ some k_ ≠ (.slice (some ad191) y172.length co14 : Value).ownBlock)) (by (with_reducible repeat (first | apply Kd.R_alloc | apply Kd.R_drewN | apply Kd.R_drew)); exact Kd.R_mono HO_8.out (fun _ hk => ⟨⟨hk.1, hk.2.1⟩, hk.2.2⟩)) hg hat); have n3_ := am (blk_grown (g := gb171) (o := .cells #[.int .i32 a0_0, .string a0_1, .slice A0_2 l0_2.length c0_2, .slice A0_3 l0_3.length c0_3, .bool a0_4, .bool a0_5] 89 (0, 0)) (bd BK171) hg (Kd.R_ne HO_9.out BK171.out (by decide))); have n4_ := am (hb); have n5_ := am (ho); clear HO_1; clear HO_7; clear HO_8; clear BK171; clear HB; clear HO_9; have HO_1 := n0_; have HO_7 := n1_; have HO_8 := n2_; have BK171 := n3_; have HB := n4_; have HO194 := n5_; clear n0_ n1_ n2_ n3_ n4_ n5_; clear ho hb hg hat))
           go_roundg kj12
           case measure => have := HK1.out; have := HJ12.out; omega
           case rel => exact ⟨(x1_1), (y192), (wrap64 (x10_1 + 1)), rq, H', ⟨by have := HK1.out; have := HJ12.out; omega⟩, ⟨rW (Kd.V_mono HO_1.out (fun _ hk => ⟨hk.1.1, ⟨hk.1.2.1, ⟨hk.1.2.2.1, ⟨hk.2, hk.1.2.2.2⟩⟩⟩⟩))⟩, ⟨by (with_reducible repeat (first | apply Kd.R_alloc | apply Kd.R_drewN | apply Kd.R_drew)); exact Kd.R_mono HO_7.out (fun _ hk => ⟨hk.1.1, ⟨hk.1.2, hk.2⟩⟩)⟩, ⟨by (with_reducible repeat (first | apply Kd.R_alloc | apply Kd.R_drewN | apply Kd.R_drew)); exact Kd.R_mono HO_8.out (fun _ hk => ⟨hk.1.1, ⟨hk.1.2, hk.2⟩⟩)⟩, ⟨rR HO194⟩, ⟨bd BK171⟩, ⟨bq⟩⟩
          rw [if_neg c43] at H
          exact absurd H (by simp)
         rw [if_neg c42] at H
         exact absurd H (by simp)
        rw [if_neg c41] at H
        have c41b0 : decide (x10_1 < (y172.length : Int)) = false := decide_eq_false c41
        clear c41
        have H' := am H
        clear H
        go_wp2
        go_roundg kj12
        case measure => have := HK1.out; have := HJ12.out; omega
        case rel => exact ⟨(x1_1), (x9_1), (wrap64 (x10_1 + 1)), rq, H', ⟨by have := HK1.out; have := HJ12.out; omega⟩, ⟨rV HO_1⟩, ⟨rR HO_7⟩, ⟨rR HO_8⟩, ⟨rR HO_9⟩, ⟨bd BK171⟩, ⟨bq⟩⟩
     rw [if_neg c12] at H
     have c12b0 : decide (x10_1 ≤ (y172.length : Int)) = false := decide_eq_false c12
     clear c12
     obtain rfl := Option.some.inj H
     obtain ⟨Ao45, co45, eo45⟩ := Kd.R_slice HO_7.out
     subst eo45
     have hcv46 := own_rstring (P := Tryz.prog) Tryz.underlying164 Tryz.underlying21 Tryz.underlying9 (Kd.own_of_R HO_9.out)
     go_wp2
     go_ret
     exact ⟨eq', bq⟩
  rw [if_neg c5] at H
  exact absurd H (by simp)
 rw [if_neg c4] at H
 exact absurd H (by simp)
theorem pattern_read.calls (A0 : Option Addr) (c0 : Nat) (l : List S48) (A1 : Option Addr) (c1 : Nat) (p : List S91) (s : ByteArray) (r1 : List Int) (r2 : Bool) (w : World) (hr0 : Kd.C k48 w A0 l.length l) (hc0 : l.length ≤ c0) (hr1 : Kd.C k91 w A1 p.length p) (hc1 : p.length ≤ c1) (hG : Glob w) (h : pattern_read.f l p s = some (r1, r2)) :
  Calls Tryz.prog 104 #[.slice A0 l.length c0, .slice A1 p.length c1, .string s] w fun e w' => ∃ v0_ : Value, e = .returned (.tuple #[v0_, .bool r2]) ∧ Kd.R (Kd.int .i64) 3 w' w.heap.size (fun _ => True) v0_ r1 ∧ Below w.heap.size w w' := by
 unfold pattern_read.f at h
 by_cases h1 : (okS l s && smallP p) = true
 ·rw [if_pos h1] at h
  have h := Option.some.inj h
  simp only [Bool.and_eq_true] at h1
  have HR0 := am hr0
  have HC0 := am hc0
  have HR1 := am hr1
  have HC1 := am hc1
  have HG := am hG
  have HO := am (okS_at h1.1)
  have HOA := am (show okA l = true by unfold okA; simp [HO.out.1.1, HO.out.1.2])
  have HS := am h1.2
  clear hr0 hc0 hr1 hc1 hG h1
  cases hp : okP l p with
  | false =>
   rw [hp] at h
   obtain ⟨rfl, rfl⟩ := Prod.mk.inj h
   have HV := am hp
   clear h hp
   go_enter Tryz.func104, Tryz.ntmps104
   go_wp2_with (first | (go_at_call 62; refine (pattern_Valid.calls A0 c0 l A1 c1 p false _ HR0.out HC0.out HR1.out HC1.out HG.out (by unfold pattern_Valid.f; rw [if_pos (by rw [HOA.out, HS.out]; rfl), HV.out])).mono ?_; rintro e w1 ⟨rfl, hb⟩; have HB1 := am hb; clear hb))
   go_ret2
   exact ⟨_, rfl, Kd.R_nil _ _ _ _ _, HB1.out⟩
  | true =>
   rw [hp] at h
   obtain ⟨rfl, rfl⟩ := Prod.mk.inj h
   have HV := am hp
   have HPP := am (okP_proper hp)
   clear h hp
   go_enter Tryz.func104, Tryz.ntmps104
   go_wp2_with (first | (go_at_call 62; refine (pattern_Valid.calls A0 c0 l A1 c1 p true _ HR0.out HC0.out HR1.out HC1.out HG.out (by unfold pattern_Valid.f; rw [if_pos (by rw [HOA.out, HS.out]; rfl), HV.out])).mono ?_; rintro e w1 ⟨rfl, hb⟩; have HB1 := am hb; clear hb) | (go_at_call 78; refine (pattern_proper.calls A0 c0 l _ (Kd.C_below HR0.out HB1.out) HC0.out HOA.out true HPP.out).mono ?_; rintro e w2 ⟨mp, rfl, hb, ht⟩; obtain ⟨b, n, rfl, hbl, ht⟩ := ht rfl; have HB2 := am (below_step HB1.out hb); have HT := am ht; clear hb hbl ht) | (go_at_call 79; refine (pattern_over.calls _ _ _ _ s _ _ HT.out HO.out.2 (HG.out.below HB2.out) rfl).mono ?_; rintro e w3 ⟨v0, rfl, hR, hb⟩; have HB3 := am (below_step HB2.out hb); have HR3 := am (Kd.R_lower hR HB2.out.size); clear hb hR))
   go_ret2
   exact ⟨_, rfl, HR3.out, HB3.out⟩
 rw [if_neg h1] at h
 exact absurd h (by simp)
theorem pattern_closed.calls (k : Nat) (A0 : Option Addr) (c0 : Nat) (l0 : List (S91)) (a1 : Int) (r : Int) (w : World) (hr0 : Kd.C k91 w A0 l0.length l0) (hc0 : l0.length ≤ c0) (h : pattern_closed.f k l0 a1 = some r) :
  Calls Tryz.prog 110 #[.slice A0 l0.length c0, .int .u8 a1] w fun e w' => e = .returned (.int .u8 r) ∧ Below w.heap.size w w' := by
 have hu91 := Tryz.underlying91
 have HR0 := am hr0
 have HC0 := am hc0
 clear hr0 hc0
 have HB := am (Below.refl w.heap.size w)
 have H : (pattern_closed.l0 k a1 l0 (l0.length : Int) 0) = some r := h
 clear h
 have H' := am H
 clear H
 go_enter Tryz.func110, Tryz.ntmps110
 go_wp2
 go_loopg [1, 9] k (fun kq v1 v9 w' => ∃ (x1_1 : Int) (x9_1 : Int), v1 = .int .u8 x1_1 ∧ v9 = .int .i64 x9_1 ∧ Aside0 (pattern_closed.l0 kq x1_1 l0 (l0.length : Int) x9_1 = some r) ∧ Aside0 (kq ≤ k) ∧ Aside0 (Below w.heap.size w w'))
 case atStart => exact ⟨(a1), (0), rq, rq, H', ⟨Nat.le_refl _⟩, ⟨bq⟩⟩
 case round =>
  clear H'
  obtain ⟨x1_1, x9_1, rfl, rfl, HA, HK1, HB⟩ := hrel
  cases gk with
  | zero => exact absurd HA.out (by simp [pattern_closed.l0])
  | succ k1 =>
   have H := HA.out
   clear HA
   simp only [pattern_closed.l0] at H
   by_cases c3 : x9_1 < (l0.length : Int)
   ·rw [if_pos c3] at H
    have c3b0 : decide (x9_1 < (l0.length : Int)) = true := decide_eq_true c3
    clear c3
    by_cases c4 : 0 ≤ x9_1
    ·rw [if_pos c4] at H
     have c4b0 : decide (0 ≤ x9_1) = true := decide_eq_true c4
     clear c4
     by_cases c5 : x9_1 < (l0.length : Int)
     ·rw [if_pos c5] at H
      have c5b0 : decide (x9_1 < (l0.length : Int)) = true := decide_eq_true c5
      clear c5
      obtain ⟨bq6, hbq6⟩ : ∃ b_ : Bool, b_ = ((rd_T91 l0 x9_1).f3) := ⟨_, rfl⟩
      replace H : (if bq6 = true then (if (Go.bits .and .u8 (shr .u8 x1_1 x9_1) 1) = 1 then (if 0 ≤ (wrap64 (x9_1 + 1)) then (pattern_closed.l0 k1 (Go.bits .or .u8 x1_1 (shl .u8 1 (wrap64 (x9_1 + 1)))) l0 (l0.length : Int) (wrap64 (x9_1 + 1))) else (none)) else (pattern_closed.l0 k1 x1_1 l0 (l0.length : Int) (wrap64 (x9_1 + 1)))) else (pattern_closed.l0 k1 x1_1 l0 (l0.length : Int) (wrap64 (x9_1 + 1)))) = some r := by rw [← hbq6] at H; exact H
      have Nbq6 := am hbq6
      clear hbq6
      by_cases c7 : bq6 = true
      ·subst c7
       rw [if_pos rfl] at H
       have c8b0 := eq_true (oq : 0 ≤ x9_1)
       obtain ⟨ji9, hji9⟩ : ∃ j_ : Int, (shr .u8 x1_1 x9_1) = j_ := ⟨_, rfl⟩
       replace H : (if (Go.bits .and .u8 (ji9) 1) = 1 then (if 0 ≤ (wrap64 (x9_1 + 1)) then (pattern_closed.l0 k1 (Go.bits .or .u8 x1_1 (shl .u8 1 (wrap64 (x9_1 + 1)))) l0 (l0.length : Int) (wrap64 (x9_1 + 1))) else (none)) else (pattern_closed.l0 k1 x1_1 l0 (l0.length : Int) (wrap64 (x9_1 + 1)))) = some r := by first | (rw [hji9] at H; exact H) | (simp only [hji9] at H ⊢; exact H)
       have hji9_ : (x1_1 / 2 ^ min x9_1.toNat 8) = ji9 := hji9
       have hji9z : x9_1 ≤ 8 → (x1_1 / 2 ^ x9_1.toNat) = ji9 := shr_small hji9
       by_cases c10 : (Go.bits .and .u8 (ji9) 1) = 1
       ·rw [if_pos c10] at H
        have c10b0 : ((Go.bits .and .u8 (ji9) 1) == 1) = true := beq_iff_eq.mpr c10
        have c10b1 : ((Go.bits .and .u8 (ji9) 1) != 1) = false := bne_eq_false_iff_eq.mpr c10
        clear c10
        obtain ⟨ji11, hji11⟩ : ∃ j_ : Int, (wrap64 (x9_1 + 1)) = j_ := ⟨_, rfl⟩
        replace H : (if 0 ≤ (ji11) then (pattern_closed.l0 k1 (Go.bits .or .u8 x1_1 (shl .u8 1 (ji11))) l0 (l0.length : Int) ji11) else (none)) = some r := by first | (rw [hji11] at H; exact H) | (simp only [hji11] at H ⊢; exact H)
        have hji11w : (IntKind.i64.wrap (x9_1 + 1)) = ji11 := (i64_w _).trans hji11
        by_cases c12 : 0 ≤ (ji11)
        ·rw [if_pos c12] at H
         have c12b0 := eq_true c12
         have c12b1 : decide (0 ≤ (ji11)) = true := decide_eq_true c12
         clear c12
         obtain ⟨ji13, hji13⟩ : ∃ j_ : Int, (shl .u8 1 (ji11)) = j_ := ⟨_, rfl⟩
         replace H : (pattern_closed.l0 k1 (Go.bits .or .u8 x1_1 (ji13)) l0 (l0.length : Int) ji11) = some r := by first | (rw [hji13] at H; exact H) | (simp only [hji13] at H ⊢; exact H)
         have hji13_ : (IntKind.u8.wrap (1 * 2 ^ min (ji11).toNat 8)) = ji13 := hji13
         have hji13z : (ji11) ≤ 8 → (IntKind.u8.wrap (1 * 2 ^ (ji11).toNat)) = ji13 := shl_small hji13
         have hji13u : (IntKind.u8.wrap (2 ^ min (ji11).toNat 8)) = ji13 := by have h_ := hji13_; rw [Int.one_mul] at h_; exact h_
         have hji13v : (ji11) ≤ 8 → (IntKind.u8.wrap (2 ^ (ji11).toNat)) = ji13 := fun hle_ => by have h_ := hji13z hle_; rw [Int.one_mul] at h_; exact h_
         have H' := am H
         clear H
         have p195 : 0 ≤ (x9_1 : Int) := oq
         have q195 : x9_1 < (l0.length : Int) := oq
         obtain ⟨ad195, e195, hx195_0, hx195_1, hx195_2, hx195_3⟩ := at_T91 HR0.out x9_1 p195 q195
         (try rw [← Nbq6.out] at hx195_2)
         (try rw [← Nbq6.out] at hx195_3)
         cases e195
         replace hx195_0 := cw hx195_0
         replace hx195_1 := cw hx195_1
         replace hx195_2 := cw hx195_2
         replace hx195_3 := cw hx195_3
         replace p195 := eq_true p195
         replace q195 := eq_true q195
         go_wp2_with (first | ((with_reducible refine gate_dst (N := 6) rfl ?_); refine bx 6 #[.int .u32 0, .string (⟨#[]⟩ : ByteArray), .bool false, .bool false] 91 ?_; intro gb196 hg w14 hbox hb; have BK196 := am hbox; have GE196 := sz hg; replace HB := bs hb; clear hb hbox hg; obtain ⟨zaa, zab, zac, zad, zae, zaf, zag, zah⟩ := bc4 BK196))
         go_roundg k1
         case measure => have := HK1.out; omega
         case rel => exact ⟨(Go.bits .or .u8 x1_1 (ji13)), (ji11), (by first | rfl | (simp; done) | (simp only [← hji13] <;> (first | rfl | simp)) | (simp [*]; done)), (by first | rfl | (simp; done) | (simp only [← hji11] <;> (first | rfl | simp)) | (simp [*]; done)), H', ⟨by have := HK1.out; omega⟩, ⟨bq⟩⟩
        rw [if_neg c12] at H
        exact absurd H (by simp)
       rw [if_neg c10] at H
       have c10b0 : ((Go.bits .and .u8 (ji9) 1) == 1) = false := beq_eq_false_iff_ne.mpr c10
       have c10b1 : ((Go.bits .and .u8 (ji9) 1) != 1) = true := bne_iff_ne.mpr c10
       have H' := am H
       clear H
       have p195 : 0 ≤ (x9_1 : Int) := oq
       have q195 : x9_1 < (l0.length : Int) := oq
       obtain ⟨ad195, e195, hx195_0, hx195_1, hx195_2, hx195_3⟩ := at_T91 HR0.out x9_1 p195 q195
       (try rw [← Nbq6.out] at hx195_2)
       (try rw [← Nbq6.out] at hx195_3)
       cases e195
       replace hx195_0 := cw hx195_0
       replace hx195_1 := cw hx195_1
       replace hx195_2 := cw hx195_2
       replace hx195_3 := cw hx195_3
       replace p195 := eq_true p195
       replace q195 := eq_true q195
       go_wp2_with (first | ((with_reducible refine gate_dst (N := 6) rfl ?_); refine bx 6 #[.int .u32 0, .string (⟨#[]⟩ : ByteArray), .bool false, .bool false] 91 ?_; intro gb196 hg w16 hbox hb; have BK196 := am hbox; have GE196 := sz hg; replace HB := bs hb; clear hb hbox hg; obtain ⟨zai, zaj, zak, zal, zam, zan, zao, zap⟩ := bc4 BK196))
       go_roundg k1
       case measure => have := HK1.out; omega
       case rel => exact ⟨(x1_1), (wrap64 (x9_1 + 1)), rq, rq, H', ⟨by have := HK1.out; omega⟩, ⟨bq⟩⟩
      replace c7 := Bool.eq_false_iff.mpr c7
      subst c7
      rw [if_neg nf] at H
      have H' := am H
      clear H
      have p195 : 0 ≤ (x9_1 : Int) := oq
      have q195 : x9_1 < (l0.length : Int) := oq
      obtain ⟨ad195, e195, hx195_0, hx195_1, hx195_2, hx195_3⟩ := at_T91 HR0.out x9_1 p195 q195
      (try rw [← Nbq6.out] at hx195_2)
      (try rw [← Nbq6.out] at hx195_3)
      cases e195
      replace hx195_0 := cw hx195_0
      replace hx195_1 := cw hx195_1
      replace hx195_2 := cw hx195_2
      replace hx195_3 := cw hx195_3
      replace p195 := eq_true p195
      replace q195 := eq_true q195
      go_wp2_with (first | ((with_reducible refine gate_dst (N := 6) rfl ?_); refine bx 6 #[.int .u32 0, .string (⟨#[]⟩ : ByteArray), .bool false, .bool false] 91 ?_; intro gb196 hg w18 hbox hb; have BK196 := am hbox; have GE196 := sz hg; replace HB := bs hb; clear hb hbox hg; obtain ⟨zaq, zar, zas, zat, zau, zav, zaw, zax⟩ := bc4 BK196))
      go_roundg k1
      case measure => have := HK1.out; omega
      case rel => exact ⟨(x1_1), (wrap64 (x9_1 + 1)), rq, rq, H', ⟨by have := HK1.out; omega⟩, ⟨bq⟩⟩
     rw [if_neg c5] at H
     exact absurd H (by simp)
    rw [if_neg c4] at H
    exact absurd H (by simp)
   rw [if_neg c3] at H
   have c3b0 : decide (x9_1 < (l0.length : Int)) = false := decide_eq_false c3
   clear c3
   obtain rfl := Option.some.inj H
   go_wp2
   go_ret
   exact ⟨eq', bq⟩
theorem pattern_admits.calls (a0_0 : Int) (a0_1 : ByteArray) (a0_2 : Bool) (a0_3 : Bool) (a1_0 : Int) (a1_1 : Int) (r : Bool) (w : World) (h : pattern_admits.f a0_0 a0_1 a0_2 a0_3 a1_0 a1_1 = some r) :
  Calls Tryz.prog 111 #[.agg #[.int .u32 a0_0, .string a0_1, .bool a0_2, .bool a0_3], .agg #[.int .i32 a1_0, .int .u32 a1_1]] w fun e w' => e = .returned (.bool r) ∧ Below w.heap.size w w' := by
 unfold pattern_admits.f at h
 by_cases hs : a0_1.size ≤ 1000000000000
 ·rw [if_pos hs] at h
  have h := Option.some.inj h
  unfold admB at h
  by_cases c1 : Go.bits .and .u32 a1_1 a0_0 = a0_0
  ·rw [if_pos c1] at h
   have c1b : (Go.bits .and .u32 a1_1 a0_0 == a0_0) = true := beq_iff_eq.mpr c1
   by_cases c2 : a0_1.toList = []
   ·rw [if_pos c2] at h
    have c2b : a0_1.toList.isEmpty = true := by rw [c2]; rfl
    have H := am h
    clear h hs c1 c2
    go_enter Tryz.func111, Tryz.ntmps111
    go_wp2
    go_ret
    exact ⟨by rw [← H.out]; cases a0_2 <;> rfl, by repeat (first | exact Below.refl _ _ | apply below_alloc)⟩
   rw [if_neg c2] at h
   have c2b : a0_1.toList.isEmpty = false := by cases hq : a0_1.toList with
    | nil => exact absurd hq c2
    | cons => rfl
   have H := am h
   clear h hs c1 c2
   go_enter Tryz.func111, Tryz.ntmps111
   obtain ⟨tot, htot⟩ : ∃ b, (rns a0_1).any (fun x => x == a1_0) = b := ⟨_, rfl⟩
   rw [htot] at H
   have HTOT := am htot
   clear htot
   have hb0 : Below w.heap.size w ((w.alloc (.cells #[Value.int IntKind.u32 a0_0, Value.string a0_1, Value.bool a0_2, Value.bool a0_3] 91)).alloc (.cells #[Value.int IntKind.i32 a1_0, Value.int IntKind.u32 a1_1] 48)) := below_alloc (below_alloc (Below.refl _ _) _) _
   have hk0 := blk_alloc (blk_new w (.cells #[Value.int IntKind.u32 a0_0, Value.string a0_1, Value.bool a0_2, Value.bool a0_3] 91)) (.cells #[Value.int IntKind.i32 a1_0, Value.int IntKind.u32 a1_1] 48)
   have hk1 := blk_new (w.alloc (.cells #[Value.int IntKind.u32 a0_0, Value.string a0_1, Value.bool a0_2, Value.bool a0_3] 91)) (.cells #[Value.int IntKind.i32 a1_0, Value.int IntKind.u32 a1_1] 48)
   have hz1 : (w.alloc (.cells #[Value.int IntKind.u32 a0_0, Value.string a0_1, Value.bool a0_2, Value.bool a0_3] 91)).heap.size = w.heap.size + 1 := by simp
   rw [hz1] at hk1
   have hz2 : ((w.alloc (.cells #[Value.int IntKind.u32 a0_0, Value.string a0_1, Value.bool a0_2, Value.bool a0_3] 91)).alloc (.cells #[Value.int IntKind.i32 a1_0, Value.int IntKind.u32 a1_1] 48)).heap.size = w.heap.size + 1 + 1 := by simp
   have hit := blk_new ((w.alloc (.cells #[Value.int IntKind.u32 a0_0, Value.string a0_1, Value.bool a0_2, Value.bool a0_3] 91)).alloc (.cells #[Value.int IntKind.i32 a1_0, Value.int IntKind.u32 a1_1] 48)) (.stringIter a0_1 0)
   rw [hz2] at hit
   have HIT := am hit
   have HK0 := am (blk_alloc hk0 (.stringIter a0_1 0))
   have HK1 := am (blk_alloc hk1 (.stringIter a0_1 0))
   have HB0 := am (below_alloc hb0 (.stringIter a0_1 0))
   clear hit hk0 hk1 hb0 hz1 hz2
   go_wp2
   go_loopg [5, 7] (a0_1.size + 1) (fun kq v5 v7 w' => ∃ (pos : Nat) (b : Bool) (xs : List Int), v5 = .bool b ∧ Aside0 (Left a0_1 kq pos xs) ∧ Aside0 ((b || xs.any (fun x => x == a1_0)) = tot) ∧ Aside0 (w'.heap[w.heap.size + 1 + 1]? = some (.stringIter a0_1 pos)) ∧ Aside0 (w'.heap[w.heap.size]? = some (.cells #[Value.int IntKind.u32 a0_0, Value.string a0_1, Value.bool a0_2, Value.bool a0_3] 91 (0, 0))) ∧ Aside0 (w'.heap[w.heap.size + 1]? = some (.cells #[Value.int IntKind.i32 a1_0, Value.int IntKind.u32 a1_1] 48 (0, 0))) ∧ Aside0 (Below w.heap.size w w'))
   case atStart => exact ⟨0, false, rns a0_1, (by first | rfl | (simp; done)), ⟨left_start a0_1⟩, ⟨by rw [Bool.false_or]; exact HTOT.out⟩, HIT, HK0, HK1, HB0⟩
   case round =>
    clear HIT HK0 HK1 HB0 HTOT
    obtain ⟨pos, b, xs, rfl, HL, HA, HI, HK0, HK1, HB⟩ := hrel
    by_cases c1 : pos < a0_1.size
    ·obtain ⟨k1, ys, rfl, rfl, HL1⟩ := left_next HL.out c1
     have hnx : ∀ ty, (Instr.next (.pointer (some ⟨w.heap.size + 1 + 1, 0, none⟩)) true ty).run Tryz.prog wr = _ := fun ty => Lib.run_next_any_at wr (w.heap.size + 1 + 1) a0_1 pos ty HI.out c1
     have HI2 := am (Lib.iterAt_heap wr (w.heap.size + 1 + 1) a0_1 pos (pos + (Utf8.decode a0_1 pos).2) HI.out)
     have HB2 := am (Lib.below_iterAt HB.out (show w.heap.size ≤ w.heap.size + 1 + 1 by omega) a0_1 (pos + (Utf8.decode a0_1 pos).2))
     have hg := grown_iterAt wr (w.heap.size + 1 + 1) a0_1 (pos + (Utf8.decode a0_1 pos).2)
     have HK2 := am (blk_grown HK0.out hg (fun e => by injection e with e; omega))
     have HK3 := am (blk_grown HK1.out hg (fun e => by injection e with e; omega))
     have hcr := (blk_cell HK3.out 0).trans rfl
     have HLL := am HL1
     clear HL1 HI HB HL HK0 HK1 hg
     generalize hd : Utf8.decode a0_1 pos = d at *
     obtain ⟨d1, d2⟩ := d
     simp only at HLL HA hnx HI2 HB2 HK2 HK3 hcr
     clear hd c1
     generalize wr.iterAt (w.heap.size + 1 + 1) a0_1 (pos + d2) = wi at *
     rw [List.any_cons, ← Bool.or_assoc] at HA
     cases b with
     | true =>
      have HA' : Aside0 ((true || ys.any (fun x => x == a1_0)) = tot) := ⟨by have := HA.out; simpa using this⟩
      clear HA hcr
      go_wp2
      go_roundg k1
      case measure => omega
      case rel => exact ⟨_, true, ys, rfl, HLL, HA', HI2, HK2, HK3, HB2⟩
     | false =>
      obtain ⟨e, he⟩ : ∃ e, ((d1 : Int) == a1_0) = e := ⟨_, rfl⟩
      rw [he] at HA
      have HA' : Aside0 ((e || ys.any (fun x => x == a1_0)) = tot) := ⟨by have := HA.out; simpa using this⟩
      clear HA
      go_wp2
      go_roundg k1
      case measure => omega
      case rel => exact ⟨_, e, ys, (by first | rfl | (simp [he]; done)), HLL, HA', HI2, HK2, HK3, HB2⟩
    obtain rfl := left_end HL.out c1
    have hnx : ∀ ty, (Instr.next (.pointer (some ⟨w.heap.size + 1 + 1, 0, none⟩)) true ty).run Tryz.prog wr = _ := fun ty => Lib.run_next_end_at wr (w.heap.size + 1 + 1) a0_1 pos ty HI.out c1
    obtain rfl : b = tot := by have := HA.out; simpa using this
    have hcn := (blk_cell HK0.out 2).trans rfl
    clear c1 HA
    go_wp2
    go_ret
    exact ⟨by rw [← H.out]; rfl, HB.out⟩
  rw [if_neg c1] at h
  have c1b : (Go.bits .and .u32 a1_1 a0_0 == a0_0) = false := beq_eq_false_iff_ne.mpr c1
  have H := am h
  clear h hs c1
  go_enter Tryz.func111, Tryz.ntmps111
  go_wp2
  go_ret
  exact ⟨by rw [← H.out]; cases a0_2 <;> rfl, by repeat (first | exact Below.refl _ _ | apply below_alloc)⟩
 rw [if_neg hs] at h
 exact absurd h (by simp)
theorem pattern_machine1.calls (A1 : Option Addr) (c1 : Nat) (p : List S91) (g3 g5 gt n i : Nat) (f : Nat → Nat → Bool) (s : Int) (w : World) (hr1 : Kd.C k91 w A1 p.length p) (hc1 : p.length ≤ c1) (h3 : w.cell? ⟨g3, 0, none⟩ = some (.slice A1 p.length c1)) (h5 : w.cell? ⟨g5, 0, none⟩ = some (.slice (some ⟨gt, 0, none⟩) p.length p.length)) (ht : TblR w gt n p.length f) (hi : i < n) (hp : (p.length : Int) ≤ 7) :
  Calls Tryz.prog 112 #[.int .u8 s, .int .i64 i, .pointer (some ⟨g3, 0, none⟩), .pointer (some ⟨g5, 0, none⟩)] w fun e w' => e = .returned (.int .u8 (closeP p (nextTo p (fun j => f j i) s p.length))) ∧ Below w.heap.size w w' := by
 have HR := am hr1
 have HC := am hc1
 have H3 := am h3
 have H5 := am h5
 have HT := am ht
 have HI := am hi
 have HP := am hp
 have hi0 : (0 ≤ (i : Int)) = True := eq_true (by omega)
 have hi1 : ((i : Int) < (n : Int)) = True := eq_true (by omega)
 clear hr1 hc1 h5 ht hi hp
 go_enter Tryz.func112, Tryz.ntmps112
 go_wp2
 go_loopg [7, 12] (p.length + 1) (fun kq v7 v12 w' => ∃ (m : Nat), v7 = .int .u8 (nextTo p (fun j => f j i) s m) ∧ v12 = .int .i64 (m : Int) ∧ Aside0 (m ≤ p.length) ∧ Aside0 (p.length - m < kq) ∧ Aside0 (Below w.heap.size w w'))
 case atStart => exact ⟨0, (by first | rfl | (simp; done)), (by first | rfl | (simp; done)), ⟨Nat.zero_le _⟩, ⟨by omega⟩, ⟨Below.refl _ _⟩⟩
 case round =>
  obtain ⟨m, rfl, rfl, HM, HK, HB⟩ := hrel
  obtain ⟨k1, rfl⟩ : ∃ k1, gk = k1 + 1 := ⟨gk - 1, by have := HK.out; omega⟩
  by_cases c1 : (m : Int) < (p.length : Int)
  ·have HRr := am (Kd.C_below HR.out HB.out)
   obtain ⟨ad2, ead2, hx0, hx1, hx2, hx3⟩ := at_T91 HRr.out (m : Int) (by omega) c1
   subst ead2
   rw [Int.toNat_natCast] at hx0 hx1 hx2 hx3
   have HML := am (show m < p.length by omega)
   obtain ⟨g, hg1, hg2⟩ := (HT.out.below HB.out) m HML.out
   have hgc := hg2 i HI.out
   have h5' := pw_cell_below HB.out H5.out
   have p1 : (0 ≤ (m : Int)) = True := eq_true (by omega)
   have q2 : ((m : Int) < (p.length : Int)) = True := eq_true c1
   have q2b : decide ((m : Int) < (p.length : Int)) = true := decide_eq_true c1
   have hwm : wrap64 ((m : Int) + 1) = (m : Int) + 1 := by have := HP.out; unfold wrap64; omega
   have hm1 : (0 ≤ (m : Int) + 1) = True := eq_true (by omega)
   have hsh : shr .u8 s (m : Int) = s / 2 ^ min m 8 := rfl
   have e1 : shl .u8 1 (m : Int) = IntKind.u8.wrap (1 * 2 ^ min m 8) := rfl
   have e2 : shl .u8 1 ((m : Int) + 1) = IntKind.u8.wrap (1 * 2 ^ min (m + 1) 8) := rfl
   have h5a := fun o => pw_cell_below (below_alloc (Below.refl wr.heap.size wr) o) h5'
   have hg1a := fun o => pw_cell_below (below_alloc (Below.refl wr.heap.size wr) o) hg1
   have hgca := fun o => pw_cell_below (below_alloc (Below.refl wr.heap.size wr) o) hgc
   clear hg2 c1 h5' hg1 hgc
   by_cases b0 : Go.bits .and .u8 (s / 2 ^ min m 8) 1 = 0
   ·have hn : nextTo p (fun j => f j i) s (m + 1) = nextTo p (fun j => f j i) s m := by rw [nextTo, hsh, if_pos b0]
    have HN := am hn
    have hb : (Go.bits .and .u8 (s / 2 ^ min m 8) 1 == 0) = true := beq_iff_eq.mpr b0
    clear b0 hn hsh e1 e2
    go_wp2
    go_roundg k1
    case measure => omega
    case rel => exact ⟨m + 1, by rw [HN.out], by first | rfl | (rw [hwm]; rfl), ⟨HML.out⟩, ⟨by have := HK.out; have := HML.out; omega⟩, ⟨below_alloc HB.out _⟩⟩
   have hb : (Go.bits .and .u8 (s / 2 ^ min m 8) 1 == 0) = false := beq_eq_false_iff_ne.mpr b0
   have hn : nextTo p (fun j => f j i) s (m + 1) = (if f m i = true then (if (rd_T91 p m).f3 = true then Go.bits .or .u8 (nextTo p (fun j => f j i) s m) (IntKind.u8.wrap (1 * 2 ^ min m 8)) else Go.bits .or .u8 (nextTo p (fun j => f j i) s m) (IntKind.u8.wrap (1 * 2 ^ min (m + 1) 8))) else nextTo p (fun j => f j i) s m) := by rw [nextTo, hsh, if_neg b0, e1, e2]
   clear b0 hsh e1 e2
   generalize hfm : f m i = fm at *
   cases fm with
   | false =>
    have HN := am hn
    clear hn hfm
    go_wp2
    go_roundg k1
    case measure => omega
    case rel => exact ⟨m + 1, by rw [HN.out]; rfl, by first | rfl | (rw [hwm]; rfl), ⟨HML.out⟩, ⟨by have := HK.out; have := HML.out; omega⟩, ⟨below_alloc HB.out _⟩⟩
   | true =>
    rw [if_pos rfl] at hn
    generalize hf3 : (rd_T91 p m).f3 = f3 at *
    cases f3 with
    | false =>
     have HN := am hn
     clear hn hfm
     go_wp2
     go_roundg k1
     case measure => omega
     case rel => exact ⟨m + 1, by rw [HN.out]; first | rfl | (simp; done) | (simp; rfl) | (simp [IntKind.wrap, IntKind.signed, IntKind.bits]; done), by first | rfl | (rw [hwm]; rfl), ⟨HML.out⟩, ⟨by have := HK.out; have := HML.out; omega⟩, ⟨below_alloc HB.out _⟩⟩
    | true =>
     have HN := am hn
     clear hn hfm
     go_wp2
     go_roundg k1
     case measure => omega
     case rel => exact ⟨m + 1, by rw [HN.out]; first | rfl | (simp; done) | (simp; rfl) | (simp [IntKind.wrap, IntKind.signed, IntKind.bits]; done), by first | rfl | (rw [hwm]; rfl), ⟨HML.out⟩, ⟨by have := HK.out; have := HML.out; omega⟩, ⟨below_alloc HB.out _⟩⟩
  obtain rfl : m = p.length := by have := HM.out; omega
  have q2b : decide ((p.length : Int) < (p.length : Int)) = false := decide_eq_false c1
  have h3' := pw_cell_below HB.out H3.out
  clear c1
  go_wp2_with (first | (go_at_call 110; refine (pattern_closed.calls (p.length + 1) A1 c1 p _ _ _ (Kd.C_below HR.out HB.out) HC.out (closeP_ok p _ (by have := HP.out; omega))).mono ?_; rintro e w2 ⟨rfl, hbel⟩; have HB2 := am (below_step HB.out hbel); clear hbel))
  go_ret
  exact ⟨rfl, HB2.out⟩
theorem wInfo4 : (Tryz.prog.info? 4).map (fun i => (i.zero, i.size, i.bytes)) = some (some (.bool false), 1, 1) := by kernel_rfl
theorem wInfo192 : (Tryz.prog.info? 192).map (fun i => (i.zero, i.size, i.bytes)) = some (some (.slice none 0 0), 1, 24) := by kernel_rfl
theorem made_size (z : Array Value) (n : Nat) : (madeCells z n).size = n := by simp [madeCells]
theorem make191 (q : Nat) (hq : (q : Int) ≤ 1000) (W : World) : (Instr.makeSlice 191 (.int .i64 q) (.int .i64 q)).run Tryz.prog W = .ok (.slice (some ⟨W.heap.size, 0, none⟩) q q) (W.alloc (.cells (madeCells (Value.slice none 0 0).cells (q * 1)) 192)) := by
 obtain ⟨i0, hi, hzz⟩ := Option.map_eq_some_iff.1 wInfo192
 simp only [Prod.mk.injEq] at hzz
 obtain ⟨hz0, hz1, hz2⟩ := hzz
 have := run_make (P := Tryz.prog) W 191 192 i0 _ Tryz.underlying191 hi hz0 .i64 .i64 (q : Int) (q : Int) (by omega) (by omega) (by rw [hz2]; omega) (by omega)
 rwa [hz1, Int.toNat_natCast] at this
theorem make192 (q : Nat) (hq : (q : Int) ≤ 1000) (W : World) : (Instr.makeSlice 192 (.int .i64 q) (.int .i64 q)).run Tryz.prog W = .ok (.slice (some ⟨W.heap.size, 0, none⟩) q q) (W.alloc (.cells (madeCells (Value.bool false).cells (q * 1)) 4)) := by
 obtain ⟨i0, hi, hzz⟩ := Option.map_eq_some_iff.1 wInfo4
 simp only [Prod.mk.injEq] at hzz
 obtain ⟨hz0, hz1, hz2⟩ := hzz
 have := run_make (P := Tryz.prog) W 192 4 i0 _ Tryz.underlying192 hi hz0 .i64 .i64 (q : Int) (q : Int) (by omega) (by omega) (by rw [hz2]; omega) (by omega)
 rwa [hz1, Int.toNat_natCast] at this
def RowsTo (w : World) (arr : Array Value) (n m x : Nat) (f : Nat → Nat → Bool) : Prop := ∀ j, j < m → ∃ (g : Nat) (row : Array Value), arr[j]? = some (.slice (some ⟨g, 0, none⟩) n n) ∧ g ≠ x ∧ w.heap[g]? = some (.cells row 4 (0, 0)) ∧ ∀ i, i < n → row[i]? = some (.bool (f j i))
theorem RowsTo.keep {w w' : World} {arr : Array Value} {n m x : Nat} {f : Nat → Nat → Bool} (h : RowsTo w arr n m x f) (hk : ∀ (g : Nat) (row : Array Value), g ≠ x → w.heap[g]? = some (.cells row 4 (0, 0)) → w'.heap[g]? = some (.cells row 4 (0, 0))) : RowsTo w' arr n m x f := fun j hj => by
 obtain ⟨g, row, h1, h2, h3, h4⟩ := h j hj
 exact ⟨g, row, h1, h2, hk g row h2 h3, h4⟩
theorem RowsTo.fresh {w : World} {arr : Array Value} {n m x y : Nat} {f : Nat → Nat → Bool} (h : RowsTo w arr n m x f) (hy : w.heap.size ≤ y) : RowsTo w arr n m y f := fun j hj => by
 obtain ⟨g, row, h1, h2, h3, h4⟩ := h j hj
 exact ⟨g, row, h1, by have := blk_lt h3; omega, h3, h4⟩
theorem RowsTo.setArr {w : World} {arr : Array Value} {n m x : Nat} {v : Value} {f : Nat → Nat → Bool} (h : RowsTo w arr n m x f) : RowsTo w (arr.setIfInBounds m v) n m x f := fun j hj => by
 obtain ⟨g, row, h1, h2, h3, h4⟩ := h j hj
 exact ⟨g, row, by rw [Array.getElem?_setIfInBounds_ne (by omega)]; exact h1, h2, h3, h4⟩
theorem blk_new1 (w : World) (o o' : Obj) : ((w.alloc o).alloc o').heap[w.heap.size + 1]? = some o' := by
 have := blk_new (w.alloc o) o'
 rwa [World.size_alloc] at this
theorem blk_new2 (w : World) (o o' o2 : Obj) : (((w.alloc o).alloc o').alloc o2).heap[w.heap.size + 2]? = some o2 := by
 have := blk_new ((w.alloc o).alloc o') o2
 rwa [World.size_alloc, World.size_alloc] at this
theorem pattern_machine.calls (A0 : Option Addr) (c0 : Nat) (l : List S48) (A1 : Option Addr) (c1 : Nat) (p : List S91) (w : World) (hr0 : Kd.C k48 w A0 l.length l) (hc0 : l.length ≤ c0) (hr1 : Kd.C k91 w A1 p.length p) (hc1 : p.length ≤ c1) (hl : (l.length : Int) ≤ 1000) (hp : (p.length : Int) ≤ 7) (hs : smallP p = true) :
  Calls Tryz.prog 109 #[.slice A0 l.length c0, .slice A1 p.length c1] w fun e w' => ∃ g3 g5 gt, e = .returned (.func (.func 112) #[] #[.pointer (some ⟨g3, 0, none⟩), .pointer (some ⟨g5, 0, none⟩)]) ∧ w'.cell? ⟨g3, 0, none⟩ = some (.slice A1 p.length c1) ∧ w'.cell? ⟨g5, 0, none⟩ = some (.slice (some ⟨gt, 0, none⟩) p.length p.length) ∧ TblR w' gt l.length p.length (admF p l) ∧ Below w.heap.size w w' := by
 have HR0 := am hr0
 have HC0 := am hc0
 have HR1 := am hr1
 have HC1 := am hc1
 have HL := am hl
 have HP := am hp
 have HS := am hs
 have mk1 := make191 p.length (by omega)
 have mk2 := make192 l.length hl
 have q0 : (0 ≤ (p.length : Int)) = True := eq_true (by omega)
 have q1 : (0 ≤ (l.length : Int)) = True := eq_true (by omega)
 clear hr0 hc0 hr1 hc1 hl hp hs
 go_enter Tryz.func109, Tryz.ntmps109
 go_wp2
 go_loopg [15] (p.length + 1) (fun kq v15 w' => ∃ (m : Nat) (arr : Array Value), v15 = .int .i64 (m : Int) ∧ Aside0 (m ≤ p.length) ∧ Aside0 (p.length - m < kq) ∧ Aside0 (w'.heap[w.heap.size]? = some (.cells #[.slice A1 p.length c1] 87 (0, 0))) ∧ Aside0 (w'.heap[w.heap.size + 2]? = some (.cells #[.slice (some ⟨w.heap.size + 1, 0, none⟩) p.length p.length] 191 (0, 0))) ∧ Aside0 (w'.heap[w.heap.size + 1]? = some (.cells arr 192 (0, 0))) ∧ Aside0 (arr.size = p.length) ∧ Aside0 (RowsTo w' arr l.length m (w.heap.size + 1) (admF p l)) ∧ Aside0 (Below w.heap.size w w'))
 case atStart =>
  exact ⟨0, madeCells (Value.slice none 0 0).cells p.length, rfl, ⟨Nat.zero_le _⟩, ⟨by omega⟩, ⟨blk_alloc (blk_alloc (blk_new w _) _) _⟩, ⟨blk_new2 _ _ _ _⟩, ⟨blk_alloc (blk_new1 _ _ _) _⟩, ⟨made_size _ _⟩, ⟨fun j hj => absurd hj (by omega)⟩, ⟨below_alloc (below_alloc (below_alloc (Below.refl _ _) _) _) _⟩⟩
 case round =>
  obtain ⟨m, arr, rfl, HM, HK, BX3, BX5, BXT, HAS, HRW, HB⟩ := hrel
  obtain ⟨k1, rfl⟩ : ∃ k1, gk = k1 + 1 := ⟨gk - 1, by have := HK.out; omega⟩
  by_cases c1 : (m : Int) < (p.length : Int)
  ·have HRr := am (Kd.C_below HR1.out HB.out)
   obtain ⟨ad2, ead2, hx0, hx1, hx2, hx3⟩ := at_T91 HRr.out (m : Int) (by omega) c1
   subst ead2
   rw [Int.toNat_natCast] at hx0 hx1 hx2 hx3
   have HML := am (show m < p.length by omega)
   have p1 : (0 ≤ (m : Int)) = True := eq_true (by omega)
   have q2 : ((m : Int) < (p.length : Int)) = True := eq_true c1
   have q2b : decide ((m : Int) < (p.length : Int)) = true := decide_eq_true c1
   have h5 : wr.cell? ⟨w.heap.size + 2, 0, none⟩ = some (.slice (some ⟨w.heap.size + 1, 0, none⟩) p.length p.length) := (blk_cell BX5.out 0).trans rfl
   have h5a := fun o => pw_cell_below (below_alloc (Below.refl wr.heap.size wr) o) h5
   clear c1
   go_wp2
   have h5b := h5a (.cells #[.int .u32 (rd_T91 p (m : Int)).f0, .string (rd_T91 p (m : Int)).f1, .bool (rd_T91 p (m : Int)).f2, .bool (rd_T91 p (m : Int)).f3] 91)
   have BX7 := am (blk_new wr (.cells #[.int .u32 (rd_T91 p (m : Int)).f0, .string (rd_T91 p (m : Int)).f1, .bool (rd_T91 p (m : Int)).f2, .bool (rd_T91 p (m : Int)).f3] 91))
   have hgc0 : wr.cell? ⟨w.heap.size + 1, m, none⟩ = some (arr[m]'(by have := HAS.out; have := HML.out; omega)) := (blk_cell BXT.out m).trans (Array.getElem?_eq_getElem _)
   generalize arr[m]'(by have := HAS.out; have := HML.out; omega) = vold at hgc0
   have hgc := pw_cell_below (below_alloc (Below.refl wr.heap.size wr) (.cells #[.int .u32 (rd_T91 p (m : Int)).f0, .string (rd_T91 p (m : Int)).f1, .bool (rd_T91 p (m : Int)).f2, .bool (rd_T91 p (m : Int)).f3] 91)) hgc0
   have hgf : (wr.alloc (.cells #[.int .u32 (rd_T91 p (m : Int)).f0, .string (rd_T91 p (m : Int)).f1, .bool (rd_T91 p (m : Int)).f2, .bool (rd_T91 p (m : Int)).f3] 91)).frozen? ⟨w.heap.size + 1, m, none⟩ = false := by rw [frozen?_alloc_cells]; exact blk_frozen BXT.out m
   have hbl := below_alloc (Below.refl wr.heap.size wr) (.cells #[.int .u32 (rd_T91 p (m : Int)).f0, .string (rd_T91 p (m : Int)).f1, .bool (rd_T91 p (m : Int)).f2, .bool (rd_T91 p (m : Int)).f3] 91)
   have hsz : (wr.alloc (.cells #[.int .u32 (rd_T91 p (m : Int)).f0, .string (rd_T91 p (m : Int)).f1, .bool (rd_T91 p (m : Int)).f2, .bool (rd_T91 p (m : Int)).f3] 91)).heap.size = wr.heap.size + 1 := World.size_alloc ..
   clear h5 h5a hgc0
   generalize wr.alloc (.cells #[.int .u32 (rd_T91 p (m : Int)).f0, .string (rd_T91 p (m : Int)).f1, .bool (rd_T91 p (m : Int)).f2, .bool (rd_T91 p (m : Int)).f3] 91) = wz at *
   have HBL := am hbl
   have HSZ := am hsz
   clear hbl hsz
   have h5d := pw_cell_below (below_alloc (Below.refl wz.heap.size wz) (.cells (madeCells #[Value.bool false] l.length) 4)) h5b
   have hgcd := pw_cell_below (below_alloc (Below.refl wz.heap.size wz) (.cells (madeCells #[Value.bool false] l.length) 4)) hgc
   have hgfd : (wz.alloc (.cells (madeCells #[Value.bool false] l.length) 4)).frozen? ⟨w.heap.size + 1, m, none⟩ = false := by rw [frozen?_alloc_cells]; exact hgf
   go_region
   go_wp2
   have hn31 : w.heap.size ≠ w.heap.size + 1 := by omega
   have hn51 : w.heap.size + 2 ≠ w.heap.size + 1 := by omega
   have Z3 := am (blk_drew (blk_far (blk_alloc (blk_below BX3.out HBL.out) (.cells (madeCells #[Value.bool false] l.length) 4)) (p := ⟨w.heap.size + 1, m, none⟩) hn31 (.slice (some ⟨wz.heap.size, 0, none⟩) l.length l.length)))
   have Z5 := am (blk_drew (blk_far (blk_alloc (blk_below BX5.out HBL.out) (.cells (madeCells #[Value.bool false] l.length) 4)) (p := ⟨w.heap.size + 1, m, none⟩) hn51 (.slice (some ⟨wz.heap.size, 0, none⟩) l.length l.length)))
   have Z7 := am (blk_drew (blk_far (blk_alloc BX7.out (.cells (madeCells #[Value.bool false] l.length) 4)) (p := ⟨w.heap.size + 1, m, none⟩) (by have := blk_lt BXT.out; show wr.heap.size ≠ w.heap.size + 1; omega) (.slice (some ⟨wz.heap.size, 0, none⟩) l.length l.length)))
   have ZT := am (blk_drew (blk_set (blk_alloc (blk_below BXT.out HBL.out) (.cells (madeCells #[Value.bool false] l.length) 4)) m (.slice (some ⟨wz.heap.size, 0, none⟩) l.length l.length)))
   have ZR := am (blk_drew (blk_far (blk_new wz (.cells (madeCells #[Value.bool false] l.length) 4)) (p := ⟨w.heap.size + 1, m, none⟩) (by have := blk_lt BXT.out; have := HSZ.out; show wz.heap.size ≠ w.heap.size + 1; omega) (.slice (some ⟨wz.heap.size, 0, none⟩) l.length l.length)))
   have ZW := am ((((HRW.out.fresh (y := wz.heap.size) (by have := HSZ.out; omega)).keep (w' := ((wz.alloc (.cells (madeCells #[Value.bool false] l.length) 4)).setCell ⟨w.heap.size + 1, m, none⟩ (.slice (some ⟨wz.heap.size, 0, none⟩) l.length l.length)).drew) (fun g row _ hg => blk_drew (blk_far (blk_alloc (blk_below hg HBL.out) _) (p := ⟨w.heap.size + 1, m, none⟩) (blk_ne hg BXT.out (by decide)) _)))).setArr (v := .slice (some ⟨wz.heap.size, 0, none⟩) l.length l.length))
   have ZB := am (show Below w.heap.size w ((wz.alloc (.cells (madeCells #[Value.bool false] l.length) 4)).setCell ⟨w.heap.size + 1, m, none⟩ (.slice (some ⟨wz.heap.size, 0, none⟩) l.length l.length)).drew from below_drew (below_set (below_alloc (below_step HB.out HBL.out) _) (by omega)))
   have ZA := am (show (arr.setIfInBounds m (.slice (some ⟨wz.heap.size, 0, none⟩) l.length l.length)).size = p.length by rw [Array.size_setIfInBounds]; exact HAS.out)
   have ZM := am (show (arr.setIfInBounds m (.slice (some ⟨wz.heap.size, 0, none⟩) l.length l.length))[m]? = some (.slice (some ⟨wz.heap.size, 0, none⟩) l.length l.length) by rw [Array.getElem?_setIfInBounds_self_of_lt (by have := HAS.out; have := HML.out; omega)])
   have ZF := am (show pattern_admits.f (rd_T91 p (m : Int)).f0 (rd_T91 p (m : Int)).f1 (rd_T91 p (m : Int)).f2 (rd_T91 p (m : Int)).f3 = fun a b => some (admB (rd_T91 p (m : Int)).f0 (rd_T91 p (m : Int)).f1 (rd_T91 p (m : Int)).f2 a b) from by
    have hxe : p[m]'(HML.out) = rd_T91 p (m : Int) := by simp [rd_T91, List.getD, List.getElem?_eq_getElem HML.out]
    have hsz : (rd_T91 p (m : Int)).f1.size ≤ 1000000000 := by
     have := List.all_eq_true.mp HS.out (p[m]'HML.out) (List.getElem_mem HML.out)
     rw [hxe] at this
     simpa using this
    funext a b
    unfold pattern_admits.f
    rw [if_pos (by omega)])
   have ZGB := am (show w.heap.size ≤ wz.heap.size by have := below_size HB.out; have := HSZ.out; omega)
   have ZG := am (show wz.heap.size ≠ w.heap.size + 1 by have := blk_lt BXT.out; have := HSZ.out; omega)
   generalize arr.setIfInBounds m (.slice (some ⟨wz.heap.size, 0, none⟩) l.length l.length) = arr2 at *
   generalize ((wz.alloc (.cells (madeCells #[Value.bool false] l.length) 4)).setCell ⟨w.heap.size + 1, m, none⟩ (.slice (some ⟨wz.heap.size, 0, none⟩) l.length l.length)).drew = wm at *
   generalize wz.heap.size = gm at *
   obtain ⟨b7, hb7⟩ : ∃ b, wr.heap.size = b := ⟨_, rfl⟩
   rw [hb7] at Z7 ⊢
   clear hb7 h5b hgc hgf h5d hgcd hgfd BX7 BX3 BX5 BXT HAS HRW HBL HSZ hn31 hn51 hx0 hx1 hx2 hx3 HRr mk1 mk2
   go_loopg [28] (l.length + 1) (fun kq v28 w' => ∃ (i : Nat) (row : Array Value), v28 = .int .i64 (i : Int) ∧ Aside0 (i ≤ l.length) ∧ Aside0 (l.length - i < kq) ∧ Aside0 (w'.heap[w.heap.size]? = some (.cells #[.slice (some ad2) p.length c1] 87 (0, 0))) ∧ Aside0 (w'.heap[w.heap.size + 2]? = some (.cells #[.slice (some ⟨w.heap.size + 1, 0, none⟩) p.length p.length] 191 (0, 0))) ∧ Aside0 (w'.heap[w.heap.size + 1]? = some (.cells arr2 192 (0, 0))) ∧ Aside0 (w'.heap[b7]? = some (.cells #[.int .u32 (rd_T91 p (m : Int)).f0, .string (rd_T91 p (m : Int)).f1, .bool (rd_T91 p (m : Int)).f2, .bool (rd_T91 p (m : Int)).f3] 91 (0, 0))) ∧ Aside0 (w'.heap[gm]? = some (.cells row 4 (0, 0))) ∧ Aside0 (row.size = l.length) ∧ Aside0 (∀ j, j < i → row[j]? = some (.bool (admF p l m j))) ∧ Aside0 (RowsTo w' arr2 l.length m gm (admF p l)) ∧ Aside0 (Below w.heap.size w w'))
   case atStart => exact ⟨0, _, rfl, ⟨Nat.zero_le _⟩, ⟨by omega⟩, Z3, Z5, ZT, Z7, ZR, ⟨made_size _ _⟩, ⟨fun j hj => absurd hj (by omega)⟩, ZW, ZB⟩
   case round =>
    clear Z3 Z5 ZT Z7 ZR ZW ZB
    obtain ⟨i, row, rfl, IM, IK, Y3, Y5, YT, Y7, YR, YS, YF, YW, YB⟩ := hrel
    obtain ⟨k2, rfl⟩ : ∃ k2, gk = k2 + 1 := ⟨gk - 1, by have := IK.out; omega⟩
    by_cases c2 : (i : Int) < (l.length : Int)
    ·have HRl := am (Kd.C_below HR0.out YB.out)
     obtain ⟨ad0, ead0, hx0, hx1⟩ := at_T48 HRl.out (i : Int) (by omega) c2
     subst ead0
     rw [Int.toNat_natCast] at hx0 hx1
     have IML := am (show i < l.length by omega)
     have p3 : (0 ≤ (i : Int)) = True := eq_true (by omega)
     have q4 : ((i : Int) < (l.length : Int)) = True := eq_true c2
     have q4b : decide ((i : Int) < (l.length : Int)) = true := decide_eq_true c2
     clear c2
     go_wp2
     have Q3 := am (blk_alloc Y3.out (.cells #[.int .i32 (rd_T48 l (i : Int)).f0, .int .u32 (rd_T48 l (i : Int)).f1] 48))
     have Q5 := am (blk_alloc Y5.out (.cells #[.int .i32 (rd_T48 l (i : Int)).f0, .int .u32 (rd_T48 l (i : Int)).f1] 48))
     have QT := am (blk_alloc YT.out (.cells #[.int .i32 (rd_T48 l (i : Int)).f0, .int .u32 (rd_T48 l (i : Int)).f1] 48))
     have Q7 := am (blk_alloc Y7.out (.cells #[.int .i32 (rd_T48 l (i : Int)).f0, .int .u32 (rd_T48 l (i : Int)).f1] 48))
     have QR := am (blk_alloc YR.out (.cells #[.int .i32 (rd_T48 l (i : Int)).f0, .int .u32 (rd_T48 l (i : Int)).f1] 48))
     have Q9 := am (blk_new wr (.cells #[.int .i32 (rd_T48 l (i : Int)).f0, .int .u32 (rd_T48 l (i : Int)).f1] 48))
     have QB := am (below_alloc YB.out (.cells #[.int .i32 (rd_T48 l (i : Int)).f0, .int .u32 (rd_T48 l (i : Int)).f1] 48))
     have QW := am (YW.out.keep (w' := wr.alloc (.cells #[.int .i32 (rd_T48 l (i : Int)).f0, .int .u32 (rd_T48 l (i : Int)).f1] 48)) (fun g row _ hg => blk_alloc hg _))
     have QG9 := am (Nat.ne_of_lt (blk_lt YR.out))
     generalize wr.alloc (.cells #[.int .i32 (rd_T48 l (i : Int)).f0, .int .u32 (rd_T48 l (i : Int)).f1] 48) = wq at *
     obtain ⟨b9, hb9⟩ : ∃ b, wr.heap.size = b := ⟨_, rfl⟩
     rw [hb9] at Q9 QG9 ⊢
     clear hb9 Y3 Y5 YT Y7 YR YB YW hx0 hx1 HRl
     have ZFi := am (show pattern_admits.f (rd_T91 p (m : Int)).f0 (rd_T91 p (m : Int)).f1 (rd_T91 p (m : Int)).f2 (rd_T91 p (m : Int)).f3 (rd_T48 l (i : Int)).f0 (rd_T48 l (i : Int)).f1 = some (admF p l m i) by rw [ZF.out]; rfl)
     have s1 : wq.cell? ⟨w.heap.size + 2, 0, none⟩ = some (.slice (some ⟨w.heap.size + 1, 0, none⟩) p.length p.length) := (blk_cell Q5.out 0).trans rfl
     have s2 : wq.cell? ⟨w.heap.size + 1, m, none⟩ = some (.slice (some ⟨gm, 0, none⟩) l.length l.length) := (blk_cell QT.out m).trans ZM.out
     have s3 : wq.cell? ⟨b7, 0, none⟩ = some (.int .u32 (rd_T91 p (m : Int)).f0) := (blk_cell Q7.out 0).trans rfl
     have s4 : wq.cell? ⟨b7, 1, none⟩ = some (.string (rd_T91 p (m : Int)).f1) := (blk_cell Q7.out 1).trans rfl
     have s5 : wq.cell? ⟨b7, 2, none⟩ = some (.bool (rd_T91 p (m : Int)).f2) := (blk_cell Q7.out 2).trans rfl
     have s6 : wq.cell? ⟨b7, 3, none⟩ = some (.bool (rd_T91 p (m : Int)).f3) := (blk_cell Q7.out 3).trans rfl
     have s7 : wq.cell? ⟨b9, 0, none⟩ = some (.int .i32 (rd_T48 l (i : Int)).f0) := (blk_cell Q9.out 0).trans rfl
     have s8 : wq.cell? ⟨b9, 1, none⟩ = some (.int .u32 (rd_T48 l (i : Int)).f1) := (blk_cell Q9.out 1).trans rfl
     have n1 : gm ≠ w.heap.size + 2 := blk_ne QR.out Q5.out (by decide)
     have n2 : gm ≠ w.heap.size + 1 := blk_ne QR.out QT.out (by decide)
     have n3 : gm ≠ b7 := blk_ne QR.out Q7.out (by decide)
     have n4 : gm ≠ b9 := QG9.out
     go_region_held3 (fun w' => w'.cell? ⟨w.heap.size + 2, 0, none⟩ = some (.slice (some ⟨w.heap.size + 1, 0, none⟩) p.length p.length) ∧ w'.cell? ⟨w.heap.size + 1, m, none⟩ = some (.slice (some ⟨gm, 0, none⟩) l.length l.length) ∧ w'.cell? ⟨b7, 0, none⟩ = some (.int .u32 (rd_T91 p (m : Int)).f0) ∧ w'.cell? ⟨b7, 1, none⟩ = some (.string (rd_T91 p (m : Int)).f1) ∧ w'.cell? ⟨b7, 2, none⟩ = some (.bool (rd_T91 p (m : Int)).f2) ∧ w'.cell? ⟨b7, 3, none⟩ = some (.bool (rd_T91 p (m : Int)).f3) ∧ w'.cell? ⟨b9, 0, none⟩ = some (.int .i32 (rd_T48 l (i : Int)).f0) ∧ w'.cell? ⟨b9, 1, none⟩ = some (.int .u32 (rd_T48 l (i : Int)).f1)) (first | assumption | go_keep | (refine ⟨?_, ?_, ?_, ?_, ?_, ?_, ?_, ?_⟩ <;> first | assumption | go_keep))
      (first | (go_at_call 111; (with_reducible refine (pattern_admits.calls _ _ _ _ _ _ (admF p l m i) _ ZFi.out).mono ?_); rintro e w2 ⟨rfl, hb⟩; have hS := And.intro (pw_cell_below (w := wq.drew) hb s1) (And.intro (pw_cell_below (w := wq.drew) hb s2) (And.intro (pw_cell_below (w := wq.drew) hb s3) (And.intro (pw_cell_below (w := wq.drew) hb s4) (And.intro (pw_cell_below (w := wq.drew) hb s5) (And.intro (pw_cell_below (w := wq.drew) hb s6) (And.intro (pw_cell_below (w := wq.drew) hb s7) (pw_cell_below (w := wq.drew) hb s8))))))); have R3 := am (blk_below (w := wq.drew) Q3.out hb); have R5 := am (blk_below (w := wq.drew) Q5.out hb); have RT := am (blk_below (w := wq.drew) QT.out hb); have R7 := am (blk_below (w := wq.drew) Q7.out hb); have RR := am (blk_below (w := wq.drew) QR.out hb); have RB := am (below_step (below_drew QB.out) hb); have RW := am (QW.out.keep (w' := w2) (fun g row _ hg => blk_below (w := wq.drew) hg hb)); have hgc : w2.cell? ⟨gm, i, none⟩ = some (row[i]'(by have := YS.out; have := IML.out; omega)) := (blk_cell RR.out i).trans (Array.getElem?_eq_getElem _); have hgf : w2.frozen? ⟨gm, i, none⟩ = false := blk_frozen RR.out i; clear hb))
     have hwi : wrap64 ((i : Int) + 1) = (i : Int) + 1 := by have := HL.out; have := IML.out; unfold wrap64; omega
     clear s1 s2 s3 s4 s5 s6 s7 s8 hS hgc hgf
     have N1 := am n1.symm
     have N2 := am n2.symm
     have N3 := am n3.symm
     clear n1 n2 n3 n4
     go_wp2
     go_roundg k2
     case measure => omega
     case rel =>
      refine ⟨i + 1, row.setIfInBounds i (.bool (admF p l m i)), by first | rfl | (rw [hwi]; rfl), ⟨IML.out⟩, ⟨by have := IK.out; have := IML.out; omega⟩, ⟨blk_far R3.out (p := ⟨gm, i, none⟩) (blk_ne R3.out RR.out (by decide)) _⟩, ⟨blk_far R5.out (p := ⟨gm, i, none⟩) N1.out _⟩, ⟨blk_far RT.out (p := ⟨gm, i, none⟩) N2.out _⟩, ⟨blk_far R7.out (p := ⟨gm, i, none⟩) N3.out _⟩, ⟨blk_set RR.out i _⟩, ⟨by rw [Array.size_setIfInBounds]; exact YS.out⟩, ⟨fun j hj => ?_⟩, ⟨RW.out.keep (fun g row' hne hg => blk_far hg (p := ⟨gm, i, none⟩) hne _)⟩, ⟨below_set RB.out (by have := ZGB.out; omega)⟩⟩
      by_cases e : j = i
      ·subst e
       rw [Array.getElem?_setIfInBounds_self_of_lt (by have := YS.out; have := IML.out; omega)]
      rw [Array.getElem?_setIfInBounds_ne (Ne.symm e)]
      exact YF.out j (by omega)
    obtain rfl : i = l.length := by have := IM.out; omega
    have q4b : decide ((l.length : Int) < (l.length : Int)) = false := decide_eq_false c2
    have hwm : wrap64 ((m : Int) + 1) = (m : Int) + 1 := by have := HP.out; have := HML.out; unfold wrap64; omega
    clear c2
    go_wp2
    go_roundg k1
    case measure => omega
    case rel =>
     refine ⟨m + 1, arr2, by first | rfl | (rw [hwm]; rfl), ⟨HML.out⟩, ⟨by have := HK.out; have := HML.out; omega⟩, Y3, Y5, YT, ZA, ⟨fun j hj => ?_⟩, YB⟩
     by_cases e : j = m
     ·subst e
      exact ⟨gm, row, ZM.out, ZG.out, YR.out, fun i hi => YF.out i hi⟩
     obtain ⟨g, row', h1, h2, h3, h4⟩ := YW.out j (by omega)
     exact ⟨g, row', h1, blk_ne h3 YT.out (by decide), h3, h4⟩
  obtain rfl : m = p.length := by have := HM.out; omega
  have q2b : decide ((p.length : Int) < (p.length : Int)) = false := decide_eq_false c1
  clear c1
  go_wp2
  go_ret
  refine ⟨w.heap.size, w.heap.size + 2, w.heap.size + 1, rfl, (blk_cell BX3.out 0).trans rfl, (blk_cell BX5.out 0).trans rfl, fun j hj => ?_, HB.out⟩
  obtain ⟨g, row, h1, h2, h3, h4⟩ := HRW.out j hj
  exact ⟨g, (blk_cell BXT.out j).trans h1, fun i hi => (blk_cell h3 i).trans (h4 i hi)⟩
theorem pattern_lengths.calls (A0 : Option Addr) (c0 : Nat) (l : List S48) (A1 : Option Addr) (c1 : Nat) (p : List S91) (A2 : Option Addr) (c2 : Nat) (ls : List Int) (r : List Int) (w : World) (hr0 : Kd.C k48 w A0 l.length l) (hc0 : l.length ≤ c0) (hr1 : Kd.C k91 w A1 p.length p) (hc1 : p.length ≤ c1) (hr2 : Kd.C (Kd.int .i64) w A2 ls.length ls) (hc2 : ls.length ≤ c2) (_hG : Glob w) (h : pattern_lengths.f l p ls = some r) :
  Calls Tryz.prog 105 #[.slice A0 l.length c0, .slice A1 p.length c1, .slice A2 ls.length c2] w fun e w' => ∃ v0_ : Value, e = .returned v0_ ∧ Kd.R (Kd.int .i64) 3 w' w.heap.size (fun _ => True) v0_ r ∧ Below w.heap.size w w' := by
 unfold pattern_lengths.f at h
 by_cases h1 : (okA l && (smallP p && (decide ((p.length : Int) ≤ 7) && (okLet l ls && decide ((ls.length : Int) ≤ 1000000000))))) = true
 ·rw [if_pos h1] at h
  simp only [Bool.and_eq_true, decide_eq_true_eq] at h1
  have HH := am (Option.some.inj h)
  have HR0 := am hr0
  have HC0 := am hc0
  have HR1 := am hr1
  have HC1 := am hc1
  have HR2 := am hr2
  have HO := am h1.1
  have HS := am h1.2.1
  have HP := am h1.2.2.1
  have HLT := am h1.2.2.2.1
  have HLS := am h1.2.2.2.2
  clear hr0 hc0 hr1 hc1 hr2 h1 h
  go_enter Tryz.func105, Tryz.ntmps105
  go_wp2_with (first | (go_at_call 109; refine (pattern_machine.calls A0 c0 l A1 c1 p _ HR0.out HC0.out HR1.out HC1.out (okA_at HO.out).2 HP.out HS.out).mono ?_; rintro e w1 ⟨g3, g5, gt, rfl, k3, k5, kt, hb⟩; have HB1 := am hb; have K3 := am k3; have K5 := am k5; have KT := am kt; clear hb k3 k5 kt) | (go_at_call 110; refine (pattern_closed.calls (p.length + 1) A1 c1 p 1 _ _ (Kd.C_below HR1.out HB1.out) HC1.out (closeP_ok p 1 (by have := HP.out; omega))).mono ?_; rintro e w2 ⟨rfl, hb⟩; have HB2 := am (below_step HB1.out hb); have HB12 := am hb; clear hb))
  go_loopg [7, 9, 10] (ls.length + 1) (fun kq v7 v9 v10 w' => ∃ (i : Nat) (s : Int) (ys : List Int), v9 = .int .u8 s ∧ v10 = .int .i64 (i : Int) ∧ Aside0 (i ≤ ls.length) ∧ Aside0 (ls.length - i < kq) ∧ Aside0 (lens p (admF p l) (ls.drop i) i s ys = r) ∧ Aside0 (ys.length ≤ i) ∧ Aside0 (Kd.R (Kd.int .i64) 3 w' w1.heap.size (fun _ => True) v7 ys) ∧ Aside0 (Below w1.heap.size w1 w'))
  case atStart => exact ⟨0, closeP p 1, [], rfl, rfl, ⟨Nat.zero_le _⟩, ⟨by omega⟩, ⟨HH.out⟩, ⟨Nat.le_refl _⟩, ⟨Kd.R_nil _ _ _ _ _⟩, HB12⟩
  case round =>
   obtain ⟨i, s, ys, rfl, rfl, IM, IK, IA, IY, IR, IB1⟩ := hrel
   obtain ⟨k1, rfl⟩ : ∃ k1, gk = k1 + 1 := ⟨gk - 1, by have := IK.out; omega⟩
   have IB := am (below_step HB1.out IB1.out)
   have HSZ := am (below_size IB1.out)
   have HYL := am (show ys.length < 1000000001 by have := IM.out; have := HLS.out; have := IY.out; omega)
   obtain ⟨zs, hzs⟩ : ∃ zs, (if Go.bits .and .u8 (s / 2 ^ min p.length 8) 1 = 1 then ys ++ [(i : Int)] else ys) = zs := ⟨_, rfl⟩
   have hend : (ls.drop i = [] ∨ s = 0) → zs = r := by
    intro hor
    have := IA.out
    cases hd : ls.drop i with
    | nil => rw [hd, lens, hzs] at this; exact this
    | cons x xs =>
     have hs0 : s = 0 := by rcases hor with h | h; (rw [hd] at h; cases h); exact h
     rw [hd, lens, if_pos hs0, hzs] at this
     exact this
   have hstep : ∀ x xs, ls.drop i = x :: xs → s ≠ 0 → lens p (admF p l) xs (i + 1) (closeP p (nextTo p (fun j => admF p l j x.toNat) s p.length)) zs = r := by
    intro x xs hd hs0
    have := IA.out
    rw [hd, lens, if_neg hs0, hzs] at this
    exact this
   have HE := am hend
   have HST := am hstep
   have HZ := am hzs
   clear hend hstep hzs IA
   by_cases c5 : Go.bits .and .u8 (s / 2 ^ min p.length 8) 1 = 1
   ·have hz := HZ.out
    rw [if_pos c5] at hz
    subst hz
    have e0 : (Go.bits .and .u8 (s / 2 ^ min p.length 8) 1 == 1) = true := beq_iff_eq.mpr c5
    clear c5 HZ
    by_cases c3 : i = ls.length
    ·have he := HE.out (.inl (List.drop_eq_nil_of_le (by omega)))
     subst he
     have e1 : ((i : Int) == (ls.length : Int)) = true := beq_iff_eq.mpr (by omega)
     have e2 : (i == ls.length) = true := beq_iff_eq.mpr c3
     clear c3
     go_wp2_with (first | (at_builtin; refine Kd.R_append (Kd.int .i64) (w0 := w1) w1.heap.size rfl (.tmp 24) (.tmp 26) 145 3 (.int .i64 0) 8 rfl Tryz.underlying145 info3 rfl (by decide) (by omega) _ ys (i : Int) [.int .i64 (i : Int)] (fun _ => True) (fun _ => False) rfl (by first | (go_simp; done) | (go_simp; rfl)) rfl (fun _ hk => hk.elim) (fun k hk => trivial) IR.out IB1.out HSZ.out (by have := HYL.out; omega) ?_; intro v1 w3 ho hb hg hat; have IR2 := am ho; have IB12 := am hb; have IB2 := am (below_step HB1.out hb); clear ho hb hg hat))
     go_ret
     exact ⟨_, rfl, Kd.R_lower IR2.out HB1.out.size, IB2.out⟩
    have e1 : ((i : Int) == (ls.length : Int)) = false := beq_eq_false_iff_ne.mpr (by omega)
    have e2 : (i == ls.length) = false := beq_eq_false_iff_ne.mpr c3
    by_cases c4 : s = 0
    ·have he := HE.out (.inr c4)
     subst he
     have e3 : (s == 0) = true := beq_iff_eq.mpr c4
     clear c3 c4
     go_wp2_with (first | (at_builtin; refine Kd.R_append (Kd.int .i64) (w0 := w1) w1.heap.size rfl (.tmp 24) (.tmp 26) 145 3 (.int .i64 0) 8 rfl Tryz.underlying145 info3 rfl (by decide) (by omega) _ ys (i : Int) [.int .i64 (i : Int)] (fun _ => True) (fun _ => False) rfl (by first | (go_simp; done) | (go_simp; rfl)) rfl (fun _ hk => hk.elim) (fun k hk => trivial) IR.out IB1.out HSZ.out (by have := HYL.out; omega) ?_; intro v1 w3 ho hb hg hat; have IR2 := am ho; have IB12 := am hb; have IB2 := am (below_step HB1.out hb); clear ho hb hg hat))
     go_ret
     exact ⟨_, rfl, Kd.R_lower IR2.out HB1.out.size, IB2.out⟩
    have e3 : (s == 0) = false := beq_eq_false_iff_ne.mpr c4
    have hil : i < ls.length := by have := IM.out; omega
    have hmem := List.all_eq_true.mp HLT.out (ls[i]'hil) (List.getElem_mem hil)
    simp only [Bool.and_eq_true, decide_eq_true_eq] at hmem
    obtain ⟨n, hn⟩ : ∃ n : Nat, ls[i]'hil = (n : Int) := ⟨(ls[i]'hil).toNat, by omega⟩
    have HNL := am (show n < l.length by rw [hn] at hmem; omega)
    have hdr := HST.out _ _ (List.drop_eq_getElem_cons hil) c4
    rw [hn, Int.toNat_natCast] at hdr
    have HD := am hdr
    have hrd : rd ls (i : Int) = (n : Int) := by rw [← hn]; simp [rd, rdOf, List.getD, List.getElem?_eq_getElem hil]
    obtain ⟨ad2, ead2, hx0⟩ := Kd.at_int HR2.out (i : Int) (by omega) (by omega)
    subst ead2
    rw [hrd, Int.toNat_natCast] at hx0
    have HX0 := am hx0
    have HIL := am hil
    have p3 : (0 ≤ (i : Int)) = True := eq_true (by omega)
    have q4 : ((i : Int) < (ls.length : Int)) = True := eq_true (by omega)
    have hwi : wrap64 ((i : Int) + 1) = (i : Int) + 1 := by have := HLS.out; unfold wrap64; omega
    clear c3 c4 hil hmem hn hdr hrd hx0
    go_wp2_with (first | (at_builtin; refine Kd.R_append (Kd.int .i64) (w0 := w1) w1.heap.size rfl (.tmp 24) (.tmp 26) 145 3 (.int .i64 0) 8 rfl Tryz.underlying145 info3 rfl (by decide) (by omega) _ ys (i : Int) [.int .i64 (i : Int)] (fun _ => True) (fun _ => False) rfl (by first | (go_simp; done) | (go_simp; rfl)) rfl (fun _ hk => hk.elim) (fun k hk => trivial) IR.out IB1.out HSZ.out (by have := HYL.out; omega) ?_; intro v1 w3 ho hb hg hat; have IR2 := am ho; have IB12 := am hb; have IB2 := am (below_step HB1.out hb); have hx1 := pw_cell_below IB2.out HX0.out; clear ho hb hg hat) | (go_at_call 112; refine (pattern_machine1.calls A1 c1 p g3 g5 gt l.length n (admF p l) s _ (Kd.C_below HR1.out IB2.out) HC1.out (pw_cell_below IB12.out K3.out) (pw_cell_below IB12.out K5.out) (KT.out.below IB12.out) HNL.out HP.out).mono ?_; rintro e w4 ⟨rfl, hb⟩; have IB3 := am (below_step IB2.out hb); have IB13 := am (below_step IB12.out hb); have IR3 := am (Kd.R_below IR2.out hb); clear hb))
    go_roundg k1
    case measure => omega
    case rel => exact ⟨i + 1, _, _, rfl, by first | rfl | (rw [hwi]; rfl), ⟨HIL.out⟩, ⟨by have := IK.out; have := HIL.out; omega⟩, HD, ⟨by rw [List.length_append]; have := IY.out; simp; omega⟩, IR3, IB13⟩
   have hz := HZ.out
   rw [if_neg c5] at hz
   subst hz
   have e0 : (Go.bits .and .u8 (s / 2 ^ min p.length 8) 1 == 1) = false := beq_eq_false_iff_ne.mpr c5
   clear c5 HZ
   by_cases c3 : i = ls.length
   ·have he := HE.out (.inl (List.drop_eq_nil_of_le (by omega)))
    subst he
    have e1 : ((i : Int) == (ls.length : Int)) = true := beq_iff_eq.mpr (by omega)
    have e2 : (i == ls.length) = true := beq_iff_eq.mpr c3
    clear c3
    have IR2 := IR
    have IB2 := IB
    have IB12 := IB1
    go_wp2
    go_ret
    exact ⟨_, rfl, Kd.R_lower IR2.out HB1.out.size, IB2.out⟩
   have e1 : ((i : Int) == (ls.length : Int)) = false := beq_eq_false_iff_ne.mpr (by omega)
   have e2 : (i == ls.length) = false := beq_eq_false_iff_ne.mpr c3
   by_cases c4 : s = 0
   ·have he := HE.out (.inr c4)
    subst he
    have e3 : (s == 0) = true := beq_iff_eq.mpr c4
    clear c3 c4
    have IR2 := IR
    have IB2 := IB
    have IB12 := IB1
    go_wp2
    go_ret
    exact ⟨_, rfl, Kd.R_lower IR2.out HB1.out.size, IB2.out⟩
   have e3 : (s == 0) = false := beq_eq_false_iff_ne.mpr c4
   have hil : i < ls.length := by have := IM.out; omega
   have hmem := List.all_eq_true.mp HLT.out (ls[i]'hil) (List.getElem_mem hil)
   simp only [Bool.and_eq_true, decide_eq_true_eq] at hmem
   obtain ⟨n, hn⟩ : ∃ n : Nat, ls[i]'hil = (n : Int) := ⟨(ls[i]'hil).toNat, by omega⟩
   have HNL := am (show n < l.length by rw [hn] at hmem; omega)
   have hdr := HST.out _ _ (List.drop_eq_getElem_cons hil) c4
   rw [hn, Int.toNat_natCast] at hdr
   have HD := am hdr
   have hrd : rd ls (i : Int) = (n : Int) := by rw [← hn]; simp [rd, rdOf, List.getD, List.getElem?_eq_getElem hil]
   have IR2 := IR
   have IB2 := IB
   have IB12 := IB1
   obtain ⟨ad2, ead2, hx0⟩ := Kd.at_int HR2.out (i : Int) (by omega) (by omega)
   subst ead2
   rw [hrd, Int.toNat_natCast] at hx0
   have HX0 := am hx0
   have HIL := am hil
   have p3 : (0 ≤ (i : Int)) = True := eq_true (by omega)
   have q4 : ((i : Int) < (ls.length : Int)) = True := eq_true (by omega)
   have hwi : wrap64 ((i : Int) + 1) = (i : Int) + 1 := by have := HLS.out; unfold wrap64; omega
   have hx1 := pw_cell_below IB2.out hx0
   clear c3 c4 hil hmem hn hdr hrd hx0
   go_wp2_with (first | (go_at_call 112; refine (pattern_machine1.calls A1 c1 p g3 g5 gt l.length n (admF p l) s _ (Kd.C_below HR1.out IB2.out) HC1.out (pw_cell_below IB12.out K3.out) (pw_cell_below IB12.out K5.out) (KT.out.below IB12.out) HNL.out HP.out).mono ?_; rintro e w4 ⟨rfl, hb⟩; have IB3 := am (below_step IB2.out hb); have IB13 := am (below_step IB12.out hb); have IR3 := am (Kd.R_below IR2.out hb); clear hb))
   go_roundg k1
   case measure => omega
   case rel => exact ⟨i + 1, _, _, rfl, by first | rfl | (rw [hwi]; rfl), ⟨HIL.out⟩, ⟨by have := IK.out; have := HIL.out; omega⟩, HD, ⟨by have := IY.out; omega⟩, IR3, IB13⟩
 rw [if_neg h1] at h
 exact absurd h (by simp)
theorem pattern_Matches.calls (A0 : Option Addr) (c0 : Nat) (l0 : List (S48)) (A1 : Option Addr) (c1 : Nat) (l1 : List (S91)) (a2 : ByteArray) (r : Bool) (w : World) (hr0 : Kd.C k48 w A0 l0.length l0) (hc0 : l0.length ≤ c0) (hr1 : Kd.C k91 w A1 l1.length l1) (hc1 : l1.length ≤ c1) (hG : Glob w) (h : pattern_Matches.f l0 l1 a2 = some r) :
  Calls Tryz.prog 100 #[.slice A0 l0.length c0, .slice A1 l1.length c1, .string a2] w fun e w' => e = .returned (.bool r) ∧ Below w.heap.size w w' := by
 have HG := am hG
 clear hG
 have HR0 := am hr0
 have HC0 := am hc0
 clear hr0 hc0
 have HR1 := am hr1
 have HC1 := am hc1
 clear hr1 hc1
 have HB := am (Below.refl w.heap.size w)
 have H : ((pattern_read.f l0 l1 a2).bind fun bt197 => (if bt197.2 = true then ((pattern_lengths.f l0 l1 bt197.1).bind fun t201 => (if (t201.length : Int) > 0 then (if 0 ≤ (wrap64 ((t201.length : Int) - 1)) then (if (wrap64 ((t201.length : Int) - 1)) < (t201.length : Int) then (some ((rd t201 (wrap64 ((t201.length : Int) - 1))) == (bt197.1.length : Int))) else (none)) else (none)) else (some false))) else (some false))) = some r := h
 clear h
 replace H := Option.bind_eq_some_iff.mp H
 obtain ⟨⟨t197, t198⟩, A40, H⟩ := H
 (try dsimp only at H)
 have A4 := am A40
 clear A40
 by_cases c5 : t198 = true
 ·subst c5
  rw [if_pos rfl] at H
  replace H := Option.bind_eq_some_iff.mp H
  obtain ⟨t201, A60, H⟩ := H
  (try dsimp only at H)
  have A6 := am A60
  clear A60
  by_cases c7 : (t201.length : Int) > 0
  ·rw [if_pos c7] at H
   have c7b0 : decide (0 < (t201.length : Int)) = true := decide_eq_true c7
   have c7b1 : decide (0 < t201.length) = true := decide_eq_true (by omega)
   clear c7
   obtain ⟨ji8, hji8⟩ : ∃ j_ : Int, (wrap64 ((t201.length : Int) - 1)) = j_ := ⟨_, rfl⟩
   replace H : (if 0 ≤ (ji8) then (if (ji8) < (t201.length : Int) then (some ((rd t201 (ji8)) == (t197.length : Int))) else (none)) else (none)) = some r := by first | (rw [hji8] at H; exact H) | (simp only [hji8] at H ⊢; exact H)
   (try rw [hji8] at A4)
   (try rw [hji8] at A6)
   have hji8w : (IntKind.i64.wrap ((t201.length : Int) - 1)) = ji8 := (i64_w _).trans hji8
   by_cases c9 : 0 ≤ (ji8)
   ·rw [if_pos c9] at H
    have c9b0 : decide (0 ≤ (ji8)) = true := decide_eq_true c9
    clear c9
    by_cases c10 : (ji8) < (t201.length : Int)
    ·rw [if_pos c10] at H
     have c10b0 : decide ((ji8) < (t201.length : Int)) = true := decide_eq_true c10
     clear c10
     obtain rfl := Option.some.inj H
     go_enter Tryz.func100, Tryz.ntmps100
     go_wp2_with (first | ((with_reducible refine gate_callee (f := 104) rfl ?_); refine gL (some 14) Tryz.func104 #[.slice A0 l0.length c0, .slice A1 l1.length c1, .string a2] ?_; (with_reducible refine (pattern_read.calls _ _ l0 _ _ l1 a2 t197 true _ (cd HR0) HC0.out (cd HR1) HC1.out (Glob.below HG.out bq) A4.out).mono ?_); rintro e w11 ⟨v199, rfl, ho0, hb⟩; refine ⟨_, rfl, ?_⟩; have HO200 := am (Kd.R_lower ho0 (below_size bq)); replace HB := bs hb; (try clear hb); (try clear ho0); obtain ⟨Ao12, co12, eo12⟩ := Kd.R_slice HO200.out; subst eo12) | ((with_reducible refine gate_callee (f := 105) rfl ?_); refine gL (some 22) Tryz.func105 #[.slice A0 l0.length c0, .slice A1 l1.length c1, .slice Ao12 t197.length co12] ?_; (with_reducible refine (pattern_lengths.calls _ _ l0 _ _ l1 _ _ t197 t201 _ (cq HR0) HC0.out (cq HR1) HC1.out ?side5 ?side6 (Glob.below HG.out bq) A6.out).mono ?_); (case side5 => repeat (first | exact (Kd.R_reads' HO200.out).2.2 | (with_reducible refine Kd.C_alloc ?_ _) | (with_reducible refine Kd.C_drewN ?_ _) | (with_reducible refine Kd.C_drew ?_))); (case side6 => exact (Kd.R_reads' HO200.out).2.1); rintro e w13 ⟨v202, rfl, ho0, hb⟩; refine ⟨_, rfl, ?_⟩; have HO203 := am (Kd.R_lower (Kd.R_new' ho0 (Kd.R_lt (rR HO200))) (below_size bq)); replace HO200 := am (Kd.R_elder' (rR HO200) (Kd.R_base ho0) hb); replace HB := bs hb; (try clear hb); (try clear ho0); obtain ⟨Ao14, co14, eo14⟩ := Kd.R_slice HO203.out; subst eo14; have p204 : 0 ≤ ((ji8) : Int) := oq; have q204 : (ji8) < (t201.length : Int) := oq; obtain ⟨ad204, e204, hx204_0⟩ := Kd.at_int (Kd.R_reads' HO203.out).2.2 (ji8) p204 q204; cases e204; replace p204 := eq_true p204; replace q204 := eq_true q204))
     go_ret
     exact ⟨by first | rfl | (simp [errW_none, errW_some] <;> rfl) | (simp only [← hji8]; first | rfl | (simp [errW_none, errW_some] <;> rfl)) | (simp [*, errW_none, errW_some] <;> rfl), bq⟩
    rw [if_neg c10] at H
    exact absurd H (by simp)
   rw [if_neg c9] at H
   exact absurd H (by simp)
  rw [if_neg c7] at H
  have c7b0 : decide (0 < (t201.length : Int)) = false := decide_eq_false c7
  have c7b1 : decide (0 < t201.length) = false := decide_eq_false (by omega)
  clear c7
  obtain rfl := Option.some.inj H
  go_enter Tryz.func100, Tryz.ntmps100
  go_wp2_with (first | ((with_reducible refine gate_callee (f := 104) rfl ?_); refine gL (some 14) Tryz.func104 #[.slice A0 l0.length c0, .slice A1 l1.length c1, .string a2] ?_; (with_reducible refine (pattern_read.calls _ _ l0 _ _ l1 a2 t197 true _ (cd HR0) HC0.out (cd HR1) HC1.out (Glob.below HG.out bq) A4.out).mono ?_); rintro e w15 ⟨v199, rfl, ho0, hb⟩; refine ⟨_, rfl, ?_⟩; have HO200 := am (Kd.R_lower ho0 (below_size bq)); replace HB := bs hb; (try clear hb); (try clear ho0); obtain ⟨Ao16, co16, eo16⟩ := Kd.R_slice HO200.out; subst eo16) | ((with_reducible refine gate_callee (f := 105) rfl ?_); refine gL (some 22) Tryz.func105 #[.slice A0 l0.length c0, .slice A1 l1.length c1, .slice Ao16 t197.length co16] ?_; (with_reducible refine (pattern_lengths.calls _ _ l0 _ _ l1 _ _ t197 t201 _ (cq HR0) HC0.out (cq HR1) HC1.out ?side5 ?side6 (Glob.below HG.out bq) A6.out).mono ?_); (case side5 => repeat (first | exact (Kd.R_reads' HO200.out).2.2 | (with_reducible refine Kd.C_alloc ?_ _) | (with_reducible refine Kd.C_drewN ?_ _) | (with_reducible refine Kd.C_drew ?_))); (case side6 => exact (Kd.R_reads' HO200.out).2.1); rintro e w17 ⟨v202, rfl, ho0, hb⟩; refine ⟨_, rfl, ?_⟩; have HO203 := am (Kd.R_lower (Kd.R_new' ho0 (Kd.R_lt (rR HO200))) (below_size bq)); replace HO200 := am (Kd.R_elder' (rR HO200) (Kd.R_base ho0) hb); replace HB := bs hb; (try clear hb); (try clear ho0); obtain ⟨Ao18, co18, eo18⟩ := Kd.R_slice HO203.out; subst eo18))
  go_ret
  exact ⟨eq', bq⟩
 replace c5 := Bool.eq_false_iff.mpr c5
 subst c5
 rw [if_neg nf] at H
 obtain rfl := Option.some.inj H
 go_enter Tryz.func100, Tryz.ntmps100
 go_wp2_with (first | ((with_reducible refine gate_callee (f := 104) rfl ?_); refine gL (some 14) Tryz.func104 #[.slice A0 l0.length c0, .slice A1 l1.length c1, .string a2] ?_; (with_reducible refine (pattern_read.calls _ _ l0 _ _ l1 a2 t197 false _ (cd HR0) HC0.out (cd HR1) HC1.out (Glob.below HG.out bq) A4.out).mono ?_); rintro e w19 ⟨v199, rfl, ho0, hb⟩; refine ⟨_, rfl, ?_⟩; have HO200 := am (Kd.R_lower ho0 (below_size bq)); replace HB := bs hb; (try clear hb); (try clear ho0)))
 go_ret
 exact ⟨eq', bq⟩
theorem api_Item_106.calls (A : Option Addr) (c : Nat) (ws : List S91) (r : List S91) (w : World) (hr : Kd.C k91 w A ws.length ws) (hc : ws.length ≤ c) (h : api_Item_106.f ws = some r) :
  Calls Tryz.prog 106 #[.slice A ws.length c] w fun e w' => ∃ v0_ : Value, e = .returned v0_ ∧ Kd.R k91 91 w' w.heap.size (fun _ => True) v0_ r ∧ Below w.heap.size w w' := by
 unfold api_Item_106.f at h
 by_cases hl : (ws.length : Int) ≤ 1000000
 ·rw [if_pos hl] at h
  obtain rfl := Option.some.inj h
  have q1 := eql87_nil
  have q2 := eql87_some
  have HB := am (Below.refl w.heap.size w)
  cases A with
  | none =>
   obtain rfl := C91_nil hr
   clear hr hl h
   go_enter Tryz.func106, Tryz.ntmps106
   go_wp2
   go_ret
   exact ⟨_, rfl, Kd.R_nil _ _ _ _ _, HB.out⟩
  | some ad =>
   have HR := am hr
   have HL := am hl
   obtain ⟨n, hn⟩ : ∃ n, ws.length = n := ⟨_, rfl⟩
   rw [hn] at HR HL ⊢
   have HN := am hn
   clear hr hl hn h hc
   go_enter Tryz.func106, Tryz.ntmps106
   go_wp2_with (first | (at_builtin; refine Kd.R_append_rows k91 (Rr := k91.K w) (w0 := w) w.heap.size rfl (.tmp 5) (.tmp 6) 87 91 (.agg #[.int .u32 0, .string ⟨#[]⟩, .bool false, .bool false]) 32 rfl Tryz.underlying87 wInfo91 rfl (by decide) (by omega) (.slice (some ⟨w.heap.size, 0, none⟩) 0 0) [] ws (some ad) n c (fun _ => True) (fun _ => False) rfl rfl (mt_row91 w) ?rd (fun x cs hx => by rw [k91_open hx]; exact k91_mkM _ _ _ _) (fun _ hk => hk.elim) (fun _ _ => trivial) (below_alloc (Below.refl _ _) _) (by simp) (by have := HL.out; simp; omega) ?_; (case rd => exact ReadsRow.imp_ HR.out (below_alloc (Below.refl _ _) _) (fun _ _ hp => hp)); intro v1 w1 ho hb hg hat; have HO := am ho; have HB1 := am hb; clear ho hb hg hat))
   go_ret
   exact ⟨_, rfl, HO.out, HB1.out⟩
 rw [if_neg hl] at h
 exact absurd h (by simp)
def api_Item_107.T3 : Bool × List (List Nat × List Nat) := (true, [([], []), ([], []), ([], []), ([], []), ([], []), ([], []), ([4, 5], [4, 5]), ([6], [6]), ([], []), ([], []), ([8, 9], [8, 9]), ([10], [10]), ([0, 1, 0, 1, 4, 5, 6, 7, 11], [0, 1]), ([12, 7, 0, 1, 4, 5, 6, 7, 11], [7, 12]), ([2, 3, 0, 1, 2, 3, 4, 5, 6, 7, 8, 9, 10, 11, 12, 13], [2, 3]), ([14, 11, 13, 0, 1, 2, 3, 4, 5, 6, 7, 8, 9, 10, 11, 12, 13], [11, 14])])
def api_Item_107.B3 : List Nat := [0, 0, 0, 0, 0, 0, 48, 112, 0, 0, 768, 1792, 4083, 8179, 16383, 32767]
theorem api_Item_107.tab3 : rtab .any (opsOf Tryz.f107 3) = api_Item_107.T3 := by kernel_rfl
theorem api_Item_107.bits3 : waitsOk api_Item_107.T3.2 api_Item_107.B3 = true := by kernel_rfl
theorem api_Item_107.calls (k : Nat) (P0_ : Nat → Prop) (u9000_ : Value) (l0 : List (S91)) (r : List (S91)) (w0 w : World) (hB : Below w0.heap.size w0 w) (ho0 : Kd.R k91 91 w w0.heap.size P0_ u9000_ l0) (h : api_Item_107.f k l0 = some r) :
  Calls Tryz.prog 107 #[u9000_] w fun e w' => e = .returned (.tuple #[]) ∧ Kd.R k91 91 w' w0.heap.size (fun k_ => (P0_ k_ ∨ w.heap.size ≤ k_)) u9000_ r ∧ Below w0.heap.size w0 w' ∧ Kept w w' (fun k_ => P0_ k_) := by
 have hu91 := Tryz.underlying91
 have HO0 := am (show Kd.R k91 91 w w0.heap.size (fun k_ => (P0_ k_ ∨ w.heap.size ≤ k_)) u9000_ l0 from Kd.R_mono ho0 (fun k_ hk => (.inl hk)))
 have HK := am (Kept.refl w (fun k_ => P0_ k_))
 have HW0 := am hB.size
 have HB := am hB
 clear hB
 have H : (api_Item_107.l0 k l0 0 (wrap64 ((l0.length : Int) - 1))) = some r := h
 clear h
 have H' := am H
 clear H
 obtain ⟨Ao2, co2, eo2⟩ := Kd.R_slice HO0.out
 subst eo2
 go_enter Tryz.func107, Tryz.ntmps107
 go_wp2
 go_loopg [2, 3] k (fun kq v2 v3 w' => ∃ (x0_1 : List (S91)) (x2_1 : Int) (x3_1 : Int), v2 = .int .i64 x2_1 ∧ v3 = .int .i64 x3_1 ∧ Aside0 (api_Item_107.l0 kq x0_1 x2_1 x3_1 = some r) ∧ Aside0 (kq ≤ k) ∧ Aside0 (Kd.R k91 91 w' w0.heap.size (fun k_ => (P0_ k_ ∨ w.heap.size ≤ k_)) (.slice Ao2 l0.length co2) x0_1) ∧ Aside0 (Kept w w' (fun k_ => P0_ k_)) ∧ Aside0 (Below w0.heap.size w0 w'))
 case atStart => exact ⟨(l0), (0), (wrap64 ((l0.length : Int) - 1)), rq, rq, H', ⟨Nat.le_refl _⟩, ⟨rR HO0⟩, ⟨by repeat (first | (with_reducible first | exact HK.out | apply Kept.alloc | apply Kept.drewN | apply Kept.drew) | exact HK.out)⟩, ⟨bq⟩⟩
 case round =>
  clear H'
  obtain ⟨x0_1, x2_1, x3_1, rfl, rfl, HA, HK1, HO_0, HK, HB⟩ := hrel
  have hl0_1 := (Kd.R_reads' HO_0.out).1
  rw [hl0_1] at HO_0
  (try simp only [hl0_1])
  cases gk with
  | zero => exact absurd HA.out (by simp [api_Item_107.l0])
  | succ k1 =>
   have H := HA.out
   clear HA
   simp only [api_Item_107.l0] at H
   by_cases c3 : x2_1 < x3_1
   ·rw [if_pos c3] at H
    have c3b0 : decide (x2_1 < x3_1) = true := decide_eq_true c3
    clear c3
    by_cases c4 : 0 ≤ x3_1
    ·rw [if_pos c4] at H
     have c4b0 : decide (0 ≤ x3_1) = true := decide_eq_true c4
     clear c4
     by_cases c5 : x3_1 < (x0_1.length : Int)
     ·rw [if_pos c5] at H
      have c5b0 : decide (x3_1 < (x0_1.length : Int)) = true := decide_eq_true c5
      clear c5
      by_cases c6 : 0 ≤ x2_1
      ·rw [if_pos c6] at H
       have c6b0 : decide (0 ≤ x2_1) = true := decide_eq_true c6
       clear c6
       by_cases c7 : x2_1 < (x0_1.length : Int)
       ·rw [if_pos c7] at H
        have c7b0 : decide (x2_1 < (x0_1.length : Int)) = true := decide_eq_true c7
        clear c7
        obtain ⟨y207, hy207⟩ : ∃ y_ : List (S91), y_ = (x0_1.set (x2_1 : Int).toNat (⟨(rd_T91 x0_1 x3_1).f0, (rd_T91 x0_1 x3_1).f1, (rd_T91 x0_1 x3_1).f2, (rd_T91 x0_1 x3_1).f3⟩ : S91)) := ⟨_, rfl⟩
        replace H : (api_Item_107.l0 k1 (y207.set (x3_1 : Int).toNat (⟨(rd_T91 x0_1 x2_1).f0, (rd_T91 x0_1 x2_1).f1, (rd_T91 x0_1 x2_1).f2, (rd_T91 x0_1 x2_1).f3⟩ : S91)) (wrap64 (x2_1 + 1)) (wrap64 (x3_1 - 1))) = some r := by first | (rw [hy207]; with_reducible exact H) | (have H2_ := (Option.bind_some _ _).symm.trans H; rw [hy207]; with_reducible exact H2_) | (have H2_ := (Option.bind_some _ _).symm.trans H; with_reducible exact H2_) | with_reducible exact H | (rw [hy207]; exact H) | exact H
        have Ny207 := am hy207
        clear hy207
        obtain ⟨y208, hy208⟩ : ∃ y_ : List (S91), y_ = (y207.set (x3_1 : Int).toNat (⟨(rd_T91 x0_1 x2_1).f0, (rd_T91 x0_1 x2_1).f1, (rd_T91 x0_1 x2_1).f2, (rd_T91 x0_1 x2_1).f3⟩ : S91)) := ⟨_, rfl⟩
        replace H : (api_Item_107.l0 k1 y208 (wrap64 (x2_1 + 1)) (wrap64 (x3_1 - 1))) = some r := by first | (rw [hy208]; with_reducible exact H) | (have H2_ := (Option.bind_some _ _).symm.trans H; rw [hy208]; with_reducible exact H2_) | (have H2_ := (Option.bind_some _ _).symm.trans H; with_reducible exact H2_) | with_reducible exact H | (rw [hy208]; exact H) | exact H
        have Ny208 := am hy208
        clear hy208
        have H' := am H
        clear H
        try go_wp2
        have n0_ := am (Kd.R_drew HO_0.out)
        have n1_ := am (Kept.drew HK.out)
        have n2_ := am (below_drew1 HB.out)
        clear HO_0
        clear HK
        clear HB
        have HO_0 := n0_
        have HK := n1_
        have HB := n2_
        clear n0_ n1_ n2_
        have p205 : 0 ≤ (x3_1 : Int) := oq
        have q205 : x3_1 < (x0_1.length : Int) := oq
        obtain ⟨ad205, e205, hx205_0, hx205_1, hx205_2, hx205_3⟩ := at_T91 (Kd.R_reads' HO_0.out).2.2 x3_1 p205 q205
        cases e205
        replace p205 := eq_true p205
        replace q205 := eq_true q205
        have p206 : 0 ≤ (x2_1 : Int) := oq
        have q206 : x2_1 < (x0_1.length : Int) := oq
        obtain ⟨ad206, e206, hx206_0, hx206_1, hx206_2, hx206_3⟩ := at_T91 (Kd.R_reads' HO_0.out).2.2 x2_1 p206 q206
        obtain rfl : ad205 = ad206 := (by injection e206)
        replace p206 := eq_true p206
        replace q206 := eq_true q206
        have p8 : 0 ≤ (x2_1 : Int) := oq
        have q8 : (x2_1 : Int) < ((x0_1.length : Int) : Int) := oq
        obtain ⟨go8, co8, eo8, gb8, gl8, cl8, HG8⟩ := Kd.R_form HO_0.out (by omega)
        (first | cases eo8 | (injection eo8 with ea_ en_ ec_; (first | subst ea_ | (injection ea_ with ea_; subst ea_)); subst ec_; clear en_))
        have GB8 := am gb8
        have GG8 := am HG8
        clear gb8 gl8 HG8
        have HMgo8 := am (show (P0_ go8 ∨ w.heap.size ≤ go8) from (HO_0.out.1 _ rfl))
        (first | simp only [add_plain] at hx205_0 | skip)
        (first | simp only [add_plain] at hx205_1 | skip)
        (first | simp only [add_plain] at hx205_2 | skip)
        (first | simp only [add_plain] at hx205_3 | skip)
        (first | simp only [add_plain] at hx206_0 | skip)
        (first | simp only [add_plain] at hx206_1 | skip)
        (first | simp only [add_plain] at hx206_2 | skip)
        (first | simp only [add_plain] at hx206_3 | skip)
        obtain ⟨ce8, hcl8, hM8, hcc8, hfr8⟩ := Kd.R_elem HO_0.out z91 (x2_1 : Int) p8 q8
        obtain rfl := k91_openM hM8
        have hx8_0 : World.cell? _ ⟨go8, (x2_1 : Int).toNat * 4, none⟩ = some (.int .u32 ((rd_T91 x0_1 x2_1).f0)) := hcc8 0 _ rfl
        have hx8_1 : World.cell? _ ⟨go8, (x2_1 : Int).toNat * 4 + 1, none⟩ = some (.string ((rd_T91 x0_1 x2_1).f1)) := hcc8 1 _ rfl
        have hx8_2 : World.cell? _ ⟨go8, (x2_1 : Int).toNat * 4 + 2, none⟩ = some (.bool ((rd_T91 x0_1 x2_1).f2)) := hcc8 2 _ rfl
        have hx8_3 : World.cell? _ ⟨go8, (x2_1 : Int).toNat * 4 + 3, none⟩ = some (.bool ((rd_T91 x0_1 x2_1).f3)) := hcc8 3 _ rfl
        have hf8_0 : World.frozen? _ ⟨go8, (x2_1 : Int).toNat * 4, none⟩ = false := hfr8 0
        have hf8_1 : World.frozen? _ ⟨go8, (x2_1 : Int).toNat * 4 + 1, none⟩ = false := hfr8 1
        have hf8_2 : World.frozen? _ ⟨go8, (x2_1 : Int).toNat * 4 + 2, none⟩ = false := hfr8 2
        have hf8_3 : World.frozen? _ ⟨go8, (x2_1 : Int).toNat * 4 + 3, none⟩ = false := hfr8 3
        clear hcl8 hcc8 hfr8 hM8
        replace p8 := eq_true p8
        replace q8 := eq_true q8
        obtain ⟨ce11, hcl11, hM11, hcc11, hfr11⟩ := Kd.R_elem HO_0.out z91 (x2_1 : Int) (oq) (by have h_ : (x2_1 : Int) < ((x0_1.length : Int) : Int) := oq; first | exact h_ | (have e_ := (Kd.R_reads' HO_0.out).1; omega) | simpa using h_)
        obtain rfl := k91_openM hM11
        have HP11 := (Kd.R_seg HO_0.out (x2_1 : Int) (oq) (by have h_ : (x2_1 : Int) < ((x0_1.length : Int) : Int) := oq; first | exact h_ | (have e_ := (Kd.R_reads' HO_0.out).1; omega) | simpa using h_) (seg := [.int .u32 ((rd_T91 x0_1 x3_1).f0), .string ((rd_T91 x0_1 x3_1).f1), .bool ((rd_T91 x0_1 x3_1).f2), .bool ((rd_T91 x0_1 x3_1).f3)]) (j := 0) hcl11 hcc11 (show 4 ≤ 4 from by decide) (x' := (⟨(rd_T91 x0_1 x3_1).f0, (rd_T91 x0_1 x3_1).f1, (rd_T91 x0_1 x3_1).f2, (rd_T91 x0_1 x3_1).f3⟩ : S91)) (k91_mkM _ _ _ (⟨(rd_T91 x0_1 x3_1).f0, (rd_T91 x0_1 x3_1).f1, (rd_T91 x0_1 x3_1).f2, (rd_T91 x0_1 x3_1).f3⟩ : S91) ) (fun _ hk => hk)).1
        rw [← Ny207.out] at HP11
        have HQ11 := am HP11
        clear hcl11 hcc11 hfr11 hM11 HP11
        have p9 : 0 ≤ (x3_1 : Int) := oq
        have q9 : (x3_1 : Int) < ((x0_1.length : Int) : Int) := oq
        obtain ⟨ce9, hcl9, hM9, hcc9, hfr9⟩ := Kd.R_elem HQ11.out z91 (x3_1 : Int) p9 q9
        obtain rfl := k91_openM hM9
        have hx9_0 : World.cell? _ ⟨go8, (x3_1 : Int).toNat * 4, none⟩ = some (.int .u32 ((rd_T91 y207 x3_1).f0)) := hcc9 0 _ rfl
        have hx9_1 : World.cell? _ ⟨go8, (x3_1 : Int).toNat * 4 + 1, none⟩ = some (.string ((rd_T91 y207 x3_1).f1)) := hcc9 1 _ rfl
        have hx9_2 : World.cell? _ ⟨go8, (x3_1 : Int).toNat * 4 + 2, none⟩ = some (.bool ((rd_T91 y207 x3_1).f2)) := hcc9 2 _ rfl
        have hx9_3 : World.cell? _ ⟨go8, (x3_1 : Int).toNat * 4 + 3, none⟩ = some (.bool ((rd_T91 y207 x3_1).f3)) := hcc9 3 _ rfl
        have hf9_0 : World.frozen? _ ⟨go8, (x3_1 : Int).toNat * 4, none⟩ = false := hfr9 0
        have hf9_1 : World.frozen? _ ⟨go8, (x3_1 : Int).toNat * 4 + 1, none⟩ = false := hfr9 1
        have hf9_2 : World.frozen? _ ⟨go8, (x3_1 : Int).toNat * 4 + 2, none⟩ = false := hfr9 2
        have hf9_3 : World.frozen? _ ⟨go8, (x3_1 : Int).toNat * 4 + 3, none⟩ = false := hfr9 3
        clear hcl9 hcc9 hfr9 hM9
        replace p9 := eq_true p9
        replace q9 := eq_true q9
        obtain ⟨ce12, hcl12, hM12, hcc12, hfr12⟩ := Kd.R_elem HQ11.out z91 (x3_1 : Int) (oq) (by have h_ : (x3_1 : Int) < ((x0_1.length : Int) : Int) := oq; first | exact h_ | (have e_ := (Kd.R_reads' HO_0.out).1; omega) | simpa using h_)
        obtain rfl := k91_openM hM12
        have HP12 := (Kd.R_seg HQ11.out (x3_1 : Int) (oq) (by have h_ : (x3_1 : Int) < ((x0_1.length : Int) : Int) := oq; first | exact h_ | (have e_ := (Kd.R_reads' HO_0.out).1; omega) | simpa using h_) (seg := [.int .u32 ((rd_T91 x0_1 x2_1).f0), .string ((rd_T91 x0_1 x2_1).f1), .bool ((rd_T91 x0_1 x2_1).f2), .bool ((rd_T91 x0_1 x2_1).f3)]) (j := 0) hcl12 hcc12 (show 4 ≤ 4 from by decide) (x' := (⟨(rd_T91 x0_1 x2_1).f0, (rd_T91 x0_1 x2_1).f1, (rd_T91 x0_1 x2_1).f2, (rd_T91 x0_1 x2_1).f3⟩ : S91)) (k91_mkM _ _ _ (⟨(rd_T91 x0_1 x2_1).f0, (rd_T91 x0_1 x2_1).f1, (rd_T91 x0_1 x2_1).f2, (rd_T91 x0_1 x2_1).f3⟩ : S91) ) (fun _ hk => hk)).1
        rw [← Ny208.out] at HP12
        have HQ12 := am HP12
        clear hcl12 hcc12 hfr12 hM12 HP12
        obtain ⟨of0_, of1_, of2_, of3_, of4_, of5_, of6_, of7_, of8_, of9_, of10_, of11_, of12_, of13_⟩ := off4 (x := x2_1) (y := x3_1) (of_decide_eq_true (by assumption)) (of_decide_eq_true (by assumption))
        replace hf8_0 : wr.drew.frozen? ⟨go8, (x2_1 : Int).toNat * 4, none⟩ = false := hf8_0
        replace hf8_1 : wr.drew.frozen? ⟨go8, (x2_1 : Int).toNat * 4 + 1, none⟩ = false := hf8_1
        replace hf8_2 : wr.drew.frozen? ⟨go8, (x2_1 : Int).toNat * 4 + 2, none⟩ = false := hf8_2
        replace hf8_3 : wr.drew.frozen? ⟨go8, (x2_1 : Int).toNat * 4 + 3, none⟩ = false := hf8_3
        replace hf9_0 : wr.drew.frozen? ⟨go8, (x3_1 : Int).toNat * 4, none⟩ = false := (World.frozen?_setCells _ _ _ _ _).symm.trans hf9_0
        replace hf9_1 : wr.drew.frozen? ⟨go8, (x3_1 : Int).toNat * 4 + 1, none⟩ = false := (World.frozen?_setCells _ _ _ _ _).symm.trans hf9_1
        replace hf9_2 : wr.drew.frozen? ⟨go8, (x3_1 : Int).toNat * 4 + 2, none⟩ = false := (World.frozen?_setCells _ _ _ _ _).symm.trans hf9_2
        replace hf9_3 : wr.drew.frozen? ⟨go8, (x3_1 : Int).toNat * 4 + 3, none⟩ = false := (World.frozen?_setCells _ _ _ _ _).symm.trans hf9_3
        refine start_ (n := 16) (S := fun w' => w'.cell? ⟨go8, ((x3_1).toNat * 4), none⟩ = some (.int .u32 ((rd_T91 x0_1 x3_1).f0)) ∧ w'.cell? ⟨go8, ((x3_1).toNat * 4) + 1, none⟩ = some (.string ((rd_T91 x0_1 x3_1).f1)) ∧ w'.cell? ⟨go8, ((x3_1).toNat * 4) + 2, none⟩ = some (.bool ((rd_T91 x0_1 x3_1).f2)) ∧ w'.cell? ⟨go8, ((x3_1).toNat * 4) + 3, none⟩ = some (.bool ((rd_T91 x0_1 x3_1).f3)) ∧ w'.cell? ⟨go8, ((x2_1).toNat * 4), none⟩ = some (.int .u32 ((rd_T91 x0_1 x2_1).f0)) ∧ w'.cell? ⟨go8, ((x2_1).toNat * 4) + 1, none⟩ = some (.string ((rd_T91 x0_1 x2_1).f1)) ∧ w'.cell? ⟨go8, ((x2_1).toNat * 4) + 2, none⟩ = some (.bool ((rd_T91 x0_1 x2_1).f2)) ∧ w'.cell? ⟨go8, ((x2_1).toNat * 4) + 3, none⟩ = some (.bool ((rd_T91 x0_1 x2_1).f3))) (ds := [13, 15]) (tf 16 0) (by kernel_rfl) rfl rfl ⟨hx205_0, hx205_1, hx205_2, hx205_3, hx206_0, hx206_1, hx206_2, hx206_3⟩ (fun hHeld => ?_); refine with_tabW api_Item_107.tab3 api_Item_107.bits3 (fun HT_ HW_ => ?_)
        generalize wr.drew = w10 at HO_0 HK HB GG8 HQ11 HQ12 hf8_0 hf8_1 hf8_2 hf8_3 hf9_0 hf9_1 hf9_2 hf9_3 hx205_0 hx205_1 hx205_2 hx205_3 hx206_0 hx206_1 hx206_2 hx206_3 hx8_0 hx8_1 hx8_2 hx8_3 hx9_0 hx9_1 hx9_2 hx9_3 hHeld ⊢
        refine pu 0 14 (tf 16 1) ?_
        refine pu 1 15 (tf 16 2) ?_
        refine pu 2 16 (tf 16 3) ?_
        refine pu 3 17 (tf 16 4) ?_
        refine pu 4 18 (tf 16 5) ?_
        refine pu 5 19 (tf 16 6) ?_
        refine pu 6 20 (tf 16 7) ?_
        refine pu 8 22 #[true, true, true, true, true, true, true, false, true, false, false, false, false, false, false, false] ?_
        refine pu 9 23 #[true, true, true, true, true, true, true, false, true, true, false, false, false, false, false, false] ?_
        refine pu 10 24 #[true, true, true, true, true, true, true, false, true, true, true, false, false, false, false, false] ?_
        refine take_ (i := 7) (N := some 21) (v := ?_) (a' := ?_) (tf 16 11) rfl rfl (take_ofW HT_.out HW_.out (by kernel_rfl)) (fun _ _ _ h => h) (Or.inl ⟨by rfl, ?_⟩) hHeld ?_ ?_
        rotate_left
        ·rintro w' ⟨s0, s1, s2, s3, s4, s5, s6, s7⟩
         go_simp
         with_reducible rfl
        rotate_left
        ·simp only [Act.put, List.setIfInBounds_toArray, List.set_cons_zero, List.set_cons_succ, i64_w, i32_w]
         rfl
        refine take_ (i := 11) (N := some 25) (v := ?_) (a' := ?_) (tf 16 12) rfl rfl (take_ofW HT_.out HW_.out (by kernel_rfl)) (fun _ _ _ h => h) (Or.inl ⟨by rfl, ?_⟩) hHeld ?_ ?_
        rotate_left
        ·rintro w' ⟨s0, s1, s2, s3, s4, s5, s6, s7⟩
         go_simp
         with_reducible rfl
        rotate_left
        ·simp only [Act.put, List.setIfInBounds_toArray, List.set_cons_zero, List.set_cons_succ, i64_w, i32_w]
         rfl
        refine pu 12 26 (tf 16 13) ?_
        refine last_ (i := 13) (N := none) (tf 16 14) rfl rfl (one_of HT_.out (by kernel_rfl)) (by decide) (fun K hK => ?_)
        refine skip_ (w1 := ?_) (by rfl) rfl ?_ ?_
        rotate_left
        ·go_simp
         rfl
        refine hK.out _ _ ?_
        clear hK K
        refine pu 14 27 (tf 16 15) ?_
        refine last_ (i := 15) (N := none) (tf 16 16) rfl rfl (one_of HT_.out (by kernel_rfl)) (by decide) (fun K hK => ?_)
        refine skip_ (w1 := ?_) (by rfl) rfl ?_ ?_
        rotate_left
        ·go_simp
         rfl
        refine hK.out _ _ ?_
        clear hK K
        refine done_ (done_of HT_.out (by kernel_rfl)) ?_
        try go_wp2
        (try simp only [← hl0_1])
        go_roundg k1
        case measure => have := HK1.out; omega
        case rel => exact ⟨(y208), (wrap64 (x2_1 + 1)), (wrap64 (x3_1 - 1)), rq, rq, H', ⟨by have := HK1.out; omega⟩, ⟨by (try simp only [hl0_1]); (with_reducible repeat (first | apply Kd.R_alloc | apply Kd.R_drewN | apply Kd.R_drew)); exact HQ12.out⟩, ⟨by repeat (first | (with_reducible first | exact HK.out | apply Kept.alloc | apply Kept.drewN | apply Kept.drew | refine Kept.setCell ?_ HMgo8.out _ | refine Kept.setCell ?_ HMgo8.out _ | refine Kept.setCell ?_ HMgo8.out _ | refine Kept.setCell ?_ HMgo8.out _ | refine Kept.setCell ?_ HMgo8.out _ | refine Kept.setCell ?_ HMgo8.out _ | refine Kept.setCell ?_ HMgo8.out _ | refine Kept.setCell ?_ HMgo8.out _) | exact HK.out)⟩, ⟨by repeat (first | (with_reducible first | exact HB.out | apply below_alloc | apply pw_below_drewN | apply below_drew1 | refine below_set ?_ GB8.out | refine below_set ?_ GB8.out | refine below_set ?_ GB8.out | refine below_set ?_ GB8.out | refine below_set ?_ GB8.out | refine below_set ?_ GB8.out | refine below_set ?_ GB8.out | refine below_set ?_ GB8.out) | exact HB.out)⟩⟩
       rw [if_neg c7] at H
       exact absurd H (by simp)
      rw [if_neg c6] at H
      exact absurd H (by simp)
     rw [if_neg c5] at H
     exact absurd H (by simp)
    rw [if_neg c4] at H
    exact absurd H (by simp)
   rw [if_neg c3] at H
   have c3b0 : decide (x2_1 < x3_1) = false := decide_eq_false c3
   clear c3
   obtain rfl := Option.some.inj H
   go_wp2
   first | go_end0 | ((try simp only [Exit.inBlock, Exit.then]); refine bodyPost_ret (results_none rfl _ _ _) rfl ?_)
   exact ⟨eq', (by first | exact (rR HO_0) | (simp only [hl0_1]; exact (rR HO_0))), bq, by repeat (first | (with_reducible first | exact HK.out | apply Kept.alloc | apply Kept.drewN | apply Kept.drew) | exact HK.out)⟩
end Go.Proofs.YtcoialpohgfikaaGreatDoor.C
