/- A part of the proof of TopForms, made short by a program. -/
import Derived.Test.YtcoialpohgfikaaGreatDoorM2
import Derived.Test.YtcoialpohgfikaaGreatDoorM3
import Derived.Test.YtcoialpohgfikaaGreatDoorM9
import Derived.Test.YtcoialpohgfikaaGreatDoorM11
import Derived.Test.YtcoialpohgfikaaGreatDoorM4
import Derived.Test.YtcoialpohgfikaaGreatDoorM5
import Derived.LoopIn
import Derived.LoopNIn
import Derived.OwnWalkIn
import Derived.RangeFuncBound
import Derived.RangeFuncCalls
import Derived.RangeFuncLeaves
import Derived.RangeFuncNested
import Derived.TacticsInMore
namespace Go.Proofs.YtcoialpohgfikaaGreatDoor.C
open Go.RowKit Go.Proofs.YtcoialpohgfikaaGreatDoorW.PrintWords Go.Proofs.YtcoialpohgfikaaGreatDoorW.PrintLast Go.Proofs.YtcoialpohgfikaaGreatDoorW.PrintMore
attribute [local go_sem] max2_int min2_int max_two min_two max_three min_three max_four min_four
set_option linter.unusedVariables false
set_option maxHeartbeats 8000000
set_option maxRecDepth 100000
set_option linter.unusedSimpArgs false
theorem morphology_Check.calls (k : Nat) (A0_0 : Option Addr) (c0_0 : Nat) (l0_0 : List (S48)) (A0_1 : Option Addr) (c0_1 : Nat) (l0_1 : List (S89)) (A0_2 : Option Addr) (c0_2 : Nat) (l0_2 : List (S38)) (A0_3 : Option Addr) (c0_3 : Nat) (l0_3 : List (S34)) (r : Int) (w : World) (hr0_0 : Kd.C k48 w A0_0 l0_0.length l0_0) (hc0_0 : l0_0.length ≤ c0_0) (hr0_1 : Kd.C k89 w A0_1 l0_1.length l0_1) (hc0_1 : l0_1.length ≤ c0_1) (hr0_2 : Kd.C k38 w A0_2 l0_2.length l0_2) (hc0_2 : l0_2.length ≤ c0_2) (hr0_3 : Kd.C k34 w A0_3 l0_3.length l0_3) (hc0_3 : l0_3.length ≤ c0_3) (hG : Glob w) (h : morphology_Check.f k l0_0 l0_1 l0_2 l0_3 = some r) :
  Calls Tryz.prog 6 #[.agg #[.slice A0_0 l0_0.length c0_0, .slice A0_1 l0_1.length c0_1, .slice A0_2 l0_2.length c0_2, .slice A0_3 l0_3.length c0_3]] w fun e w' => e = .returned (.int .i64 r) ∧ Below w.heap.size w w' := by
 have HG := am hG
 clear hG
 have hu27 := Tryz.underlying27
 have hu58 := Tryz.underlying58
 have hu38 := Tryz.underlying38
 have hu34 := Tryz.underlying34
 have hu55 := Tryz.underlying55
 have HR0_0 := am hr0_0
 have HC0_0 := am hc0_0
 clear hr0_0 hc0_0
 have HR0_1 := am hr0_1
 have HC0_1 := am hc0_1
 clear hr0_1 hc0_1
 have HR0_2 := am hr0_2
 have HC0_2 := am hc0_2
 clear hr0_2 hc0_2
 have HR0_3 := am hr0_3
 have HC0_3 := am hc0_3
 clear hr0_3 hc0_3
 have HB := am (Below.refl w.heap.size w)
 have H : ((morphology_words_parts.f k l0_0 l0_1 l0_2 l0_3).bind fun t352 => (if t352 = true then (morphology_Check.l0 k l0_2 (l0_2.length : Int) 0 l0_0 l0_1 l0_2 l0_3) else (some 1))) = some r := h
 clear h
 replace H := Option.bind_eq_some_iff.mp H
 obtain ⟨t352, A20, H⟩ := H
 (try dsimp only at H)
 have A2 := am A20
 clear A20
 by_cases c3 : t352 = true
 ·subst c3
  rw [if_pos rfl] at H
  have H' := am H
  clear H
  go_enter Tryz.func6, Tryz.ntmps6
  go_wp2_with (first | ((with_reducible refine gate_dst (N := 1) rfl ?_); refine bx 1 #[.slice A0_0 l0_0.length c0_0, .slice A0_1 l0_1.length c0_1, .slice A0_2 l0_2.length c0_2, .slice A0_3 l0_3.length c0_3] 27 ?_; intro gb350 hg w4 hbox hb; have BK350 := am hbox; have GE350 := sz hg; replace HB := bs hb; clear hb hbox hg; obtain ⟨zaa, zab, zac, zad, zae, zaf, zag, zah⟩ := bc4 BK350) | ((with_reducible refine gate_dst (N := 3) rfl ?_); refine bx 3 #[.slice none 0 0, .slice none 0 0, .slice none 0 0, .slice none 0 0] 58 ?_; intro gb351 hg w6 hbox hb; have BK351 := am hbox; have GE351 := sz hg; have NB350_351 := nl hg BK350; have NB351_350 := ng hg BK350; replace BK350 := bk BK350 hb; replace HB := bs hb; clear hb hbox hg; have hnb7 := NB351_350.out; have hnc7 := NB350_351.out; obtain ⟨zai, zaj, zak, zal, zam, zan, zao, zap⟩ := bc4 BK351) | ((with_reducible refine gate_callee (f := 14) rfl ?_); refine gL (some 19) Tryz.func14 #[.agg #[.slice A0_0 l0_0.length c0_0, .slice A0_1 l0_1.length c0_1, .slice A0_2 l0_2.length c0_2, .slice A0_3 l0_3.length c0_3]] ?_; (with_reducible refine (morphology_words_parts.calls k _ _ l0_0 _ _ l0_1 _ _ l0_2 _ _ l0_3 true _ ?side1 ?side2 ?side3 ?side4 ?side5 ?side6 ?side7 ?side8 (Glob.below HG.out bq) A2.out).mono ?_); (case side1 => exact Kd.C_below HR0_0.out bq); (case side2 => exact HC0_0.out); (case side3 => exact Kd.C_below HR0_1.out bq); (case side4 => exact HC0_1.out); (case side5 => exact Kd.C_below HR0_2.out bq); (case side6 => exact HC0_2.out); (case side7 => exact Kd.C_below HR0_3.out bq); (case side8 => exact HC0_3.out); rintro e w9 ⟨rfl, hb⟩; refine ⟨_, rfl, ?_⟩; replace BK350 := am (blk_below (g := gb350) (o := .cells #[.slice A0_0 l0_0.length c0_0, .slice A0_1 l0_1.length c0_1, .slice A0_2 l0_2.length c0_2, .slice A0_3 l0_3.length c0_3] 27 (0, 0)) (bf BK350) hb); replace BK351 := am (blk_below (g := gb351) (o := .cells #[.slice A0_0 l0_0.length c0_0, .slice A0_1 l0_1.length c0_1, .slice A0_2 l0_2.length c0_2, .slice A0_3 l0_3.length c0_3] 58 (0, 0)) (bp BK351) hb); replace HB := bs hb; (try clear hb); obtain ⟨zaq, zar, zas, zat, zau, zav, zaw, zax⟩ := bc4 BK351))
  go_loopg [25] k (fun kq v25 w' => ∃ (x25_1 : Int), v25 = .int .i64 x25_1 ∧ Aside0 (morphology_Check.l0 kq l0_2 (l0_2.length : Int) x25_1 l0_0 l0_1 l0_2 l0_3 = some r) ∧ Aside0 (kq ≤ k) ∧ Aside0 (w'.heap[gb350]? = some (.cells #[(.slice A0_0 l0_0.length c0_0), (.slice A0_1 l0_1.length c0_1), (.slice A0_2 l0_2.length c0_2), (.slice A0_3 l0_3.length c0_3)] 27 (0, 0))) ∧ Aside0 (w'.heap[gb351]? = some (.cells #[(.slice A0_0 l0_0.length c0_0), (.slice A0_1 l0_1.length c0_1), (.slice A0_2 l0_2.length c0_2), (.slice A0_3 l0_3.length c0_3)] 58 (0, 0))) ∧ Aside0 (Below w.heap.size w w'))
  case atStart => exact ⟨(0), rq, H', ⟨Nat.le_refl _⟩, ⟨bd BK350⟩, ⟨bd BK351⟩, ⟨bq⟩⟩
  case round =>
   clear H'
   clear zaq zar zas zat zaa zab zac zad zai zaj zak zal zau zav zaw zax zae zaf zag zah zam zan zao zap
   obtain ⟨x25_1, rfl, HA, HK1, BK350, BK351, HB⟩ := hrel
   cases gk with
   | zero => exact absurd HA.out (by simp [morphology_Check.l0])
   | succ k1 =>
    have H := HA.out
    clear HA
    simp only [morphology_Check.l0] at H
    by_cases c11 : x25_1 < (l0_2.length : Int)
    ·rw [if_pos c11] at H
     have c11b0 : decide (x25_1 < (l0_2.length : Int)) = true := decide_eq_true c11
     clear c11
     by_cases c12 : 0 ≤ x25_1
     ·rw [if_pos c12] at H
      have c12b0 : decide (0 ≤ x25_1) = true := decide_eq_true c12
      clear c12
      by_cases c13 : x25_1 < (l0_2.length : Int)
      ·rw [if_pos c13] at H
       have c13b0 : decide (x25_1 < (l0_2.length : Int)) = true := decide_eq_true c13
       clear c13
       have c14b0 := eq_true (oq : 0 ≤ x25_1)
       by_cases c15 : x25_1 ≤ (l0_2.length : Int)
       ·rw [if_pos c15] at H
        have c15b0 := eq_true c15
        have c15b1 : decide (x25_1 ≤ (l0_2.length : Int)) = true := decide_eq_true c15
        clear c15
        obtain ⟨y355, hy355⟩ : ∃ y_ : List (S38), y_ = (l0_2.take (x25_1 : Int).toNat) := ⟨_, rfl⟩
        replace H : ((api_Paradigm_15.f y355 ((rd_T38 l0_2 x25_1).f0)).bind fun t359 => (if t359 = true then (some 5) else (morphology_Check.l0 k1 l0_2 (l0_2.length : Int) (wrap64 (x25_1 + 1)) l0_0 l0_1 l0_2 l0_3))) = some r := by first | (rw [hy355]; with_reducible exact H) | (have H2_ := (Option.bind_some _ _).symm.trans H; rw [hy355]; with_reducible exact H2_) | (have H2_ := (Option.bind_some _ _).symm.trans H; with_reducible exact H2_) | with_reducible exact H | (rw [hy355]; exact H) | exact H
        have Ny355 := am hy355
        clear hy355
        replace H := Option.bind_eq_some_iff.mp H
        obtain ⟨t359, A160, H⟩ := H
        (try dsimp only at H)
        have A16 := am A160
        clear A160
        by_cases c17 : t359 = true
        ·subst c17
         rw [if_pos rfl] at H
         obtain rfl := Option.some.inj H
         have p353 : 0 ≤ (x25_1 : Int) := oq
         have q353 : x25_1 < (l0_2.length : Int) := oq
         obtain ⟨ad353, A353_1, c353_1, A353_2, c353_2, e353, hx353_0, hx353_1, hx353_2, hl353_1, hi353_1, hl353_2, hi353_2⟩ := at_T38 HR0_2.out x25_1 p353 q353
         cases e353
         replace hx353_0 := cw hx353_0
         replace hx353_1 := cw hx353_1
         replace hx353_2 := cw hx353_2
         have HR353_1 := am hi353_1
         have HC353_1 := am hl353_1
         clear hi353_1 hl353_1
         have HR353_2 := am hi353_2
         have HC353_2 := am hl353_2
         clear hi353_2 hl353_2
         replace p353 := eq_true p353
         replace q353 := eq_true q353
         go_wp2_with (first | ((with_reducible refine gate_dst (N := 5) rfl ?_); refine bx 5 #[.string (⟨#[]⟩ : ByteArray), .slice none 0 0, .slice none 0 0] 38 ?_; intro gb354 hg w18 hbox hb; have BK354 := am hbox; have GE354 := sz hg; have NB350_354 := nl hg BK350; have NB354_350 := ng hg BK350; have NB351_354 := nl hg BK351; have NB354_351 := ng hg BK351; replace BK350 := bk BK350 hb; replace BK351 := bk BK351 hb; replace HB := bs hb; clear hb hbox hg; have hnb19 := NB354_350.out; have hnc19 := NB350_354.out; have hnb20 := NB354_351.out; have hnc20 := NB351_354.out; obtain ⟨zay, zaz, zba, zbb, zbc, zbd⟩ := bc3 BK354) | ((with_reducible refine gate_store (t := 38) (p := 5) rfl ?_); refine store_event (t := 38) (p := 5) (v := ?vo_w22) (w1 := (((w18.setCell ⟨gb354, 0, none⟩ (.string ((rd_T38 l0_2 x25_1).f0))).setCell ⟨gb354, 1, none⟩ (.slice A353_1 ((rd_T38 l0_2 x25_1).f1).length c353_1)).setCell ⟨gb354, 2, none⟩ (.slice A353_2 ((rd_T38 l0_2 x25_1).f2).length c353_2))) ?hg ?ho ?hn ?hr ?_; (case ho => rfl); (case hg => rfl); (case hn => rfl); (case hr => first | (go_simp; done) | (go_simp; rfl)); intro w22 hw; have n0_ : Aside0 (w22.heap[gb350]? = some (.cells #[.slice A0_0 l0_0.length c0_0, .slice A0_1 l0_1.length c0_1, .slice (some ad353) l0_2.length c0_2, .slice A0_3 l0_3.length c0_3] 27 (0, 0))) := ⟨(by rw [hw]; exact (bf BK350))⟩; have n1_ : Aside0 (w22.heap[gb351]? = some (.cells #[.slice A0_0 l0_0.length c0_0, .slice A0_1 l0_1.length c0_1, .slice (some ad353) l0_2.length c0_2, .slice A0_3 l0_3.length c0_3] 58 (0, 0))) := ⟨(by rw [hw]; exact (bf BK351))⟩; have n2_ : Aside0 (w22.heap[gb354]? = some (.cells #[.string ((rd_T38 l0_2 x25_1).f0), .slice A353_1 ((rd_T38 l0_2 x25_1).f1).length c353_1, .slice A353_2 ((rd_T38 l0_2 x25_1).f2).length c353_2] 38 (0, 0))) := ⟨(by rw [hw]; exact (bp BK354))⟩; have n3_ : Aside0 (Below w.heap.size w w22) := ⟨(by rw [hw]; exact bq)⟩; clear hw; clear BK350; clear BK351; clear BK354; clear HB; have BK350 := n0_; have BK351 := n1_; have BK354 := n2_; have HB := n3_; clear n0_ n1_ n2_ n3_; have hnb23 := NB351_350.out; have hnc23 := NB350_351.out; obtain ⟨zbe, zbf, zbg, zbh, zbi, zbj, zbk, zbl⟩ := bc4 BK351; have q25 : (x25_1 : Int) ≤ ((l0_2.length : Int) : Int) := oq; obtain ⟨i025, hi025, _, hsz25, _⟩ := info_parts info38; have hroom25 : l0_2.length ≤ c0_2 := HC0_2.out; have hC25 : Kd.C k38 _ (some ad353) l0_2.length l0_2 := HR0_2.out; have hcut25 := cut_to (P := Tryz.prog) 24 38 .i64 Tryz.underlying24 hi025 (some ad353) l0_2.length c0_2 x25_1 (oq) q25 hroom25; have hr25 := Kd.C_take (m := (x25_1 : Int).toNat) hC25 (by omega); have hy25 : y355.length = (x25_1 : Int).toNat := (by rw [Ny355.out, List.length_take]; omega); rw [← Ny355.out] at hr25; rw [← hy25] at hcut25; have HR358 := am hr25; have HC358 := am (show y355.length ≤ c0_2 from by omega); clear hr25 hC25 hroom25 hi025 hsz25; have KY25 := am hy25; clear hy25; replace q25 := eq_true q25; obtain ⟨zbm, zbn, zbo, zbp, zbq, zbr⟩ := bc3 BK354) | ((with_reducible refine gate_callee (f := 15) rfl ?_); refine gL (some 36) Tryz.func15 #[.slice (some ad353) y355.length c0_2, .func (.func 16) #[] #[.pointer (some ⟨gb354, 0, none⟩)]] ?_; (with_reducible refine (api_Paradigm_15.calls _ _ y355 ((rd_T38 l0_2 x25_1).f0) true gb354 _ ?side1 ?side2 ?clo_ A16.out).mono ?_); (case clo_ => refine Eq.trans (blk_cell (g := gb354) (cs := #[.string ((rd_T38 l0_2 x25_1).f0), .slice A353_1 ((rd_T38 l0_2 x25_1).f1).length c353_1, .slice A353_2 ((rd_T38 l0_2 x25_1).f2).length c353_2]) (t := 38) ?_ 0) rfl; (with_reducible repeat (first | refine blk_drewN ?_ _ | refine blk_drew ?_ | refine blk_alloc ?_ _)); exact BK354.out); (case side1 => repeat (first | exact (Kd.C_below HR358.out HB.out) | (with_reducible refine Kd.C_alloc ?_ _) | (with_reducible refine Kd.C_drewN ?_ _) | (with_reducible refine Kd.C_drew ?_))); (case side2 => exact HC358.out); rintro e w27 ⟨rfl, hb⟩; refine ⟨_, rfl, ?_⟩; replace BK350 := bk BK350 hb; replace BK351 := bk BK351 hb; replace BK354 := bk BK354 hb; replace HB := bs hb; (try clear hb)))
         go_ret
         exact ⟨eq', bq⟩
        replace c17 := Bool.eq_false_iff.mpr c17
        subst c17
        rw [if_neg nf] at H
        have H' := am H
        clear H
        have p353 : 0 ≤ (x25_1 : Int) := oq
        have q353 : x25_1 < (l0_2.length : Int) := oq
        obtain ⟨ad353, A353_1, c353_1, A353_2, c353_2, e353, hx353_0, hx353_1, hx353_2, hl353_1, hi353_1, hl353_2, hi353_2⟩ := at_T38 HR0_2.out x25_1 p353 q353
        cases e353
        replace hx353_0 := cw hx353_0
        replace hx353_1 := cw hx353_1
        replace hx353_2 := cw hx353_2
        have HR353_1 := am hi353_1
        have HC353_1 := am hl353_1
        clear hi353_1 hl353_1
        have HR353_2 := am hi353_2
        have HC353_2 := am hl353_2
        clear hi353_2 hl353_2
        replace p353 := eq_true p353
        replace q353 := eq_true q353
        go_wp2_with (first | ((with_reducible refine gate_dst (N := 5) rfl ?_); refine bx 5 #[.string (⟨#[]⟩ : ByteArray), .slice none 0 0, .slice none 0 0] 38 ?_; intro gb354 hg w28 hbox hb; have BK354 := am hbox; have GE354 := sz hg; have NB350_354 := nl hg BK350; have NB354_350 := ng hg BK350; have NB351_354 := nl hg BK351; have NB354_351 := ng hg BK351; replace BK350 := bk BK350 hb; replace BK351 := bk BK351 hb; replace HB := bs hb; clear hb hbox hg; have hnb29 := NB354_350.out; have hnc29 := NB350_354.out; have hnb30 := NB354_351.out; have hnc30 := NB351_354.out; obtain ⟨zbs, zbt, zbu, zbv, zbw, zbx⟩ := bc3 BK354) | ((with_reducible refine gate_store (t := 38) (p := 5) rfl ?_); refine store_event (t := 38) (p := 5) (v := ?vo_w32) (w1 := (((w28.setCell ⟨gb354, 0, none⟩ (.string ((rd_T38 l0_2 x25_1).f0))).setCell ⟨gb354, 1, none⟩ (.slice A353_1 ((rd_T38 l0_2 x25_1).f1).length c353_1)).setCell ⟨gb354, 2, none⟩ (.slice A353_2 ((rd_T38 l0_2 x25_1).f2).length c353_2))) ?hg ?ho ?hn ?hr ?_; (case ho => rfl); (case hg => rfl); (case hn => rfl); (case hr => first | (go_simp; done) | (go_simp; rfl)); intro w32 hw; have n0_ : Aside0 (w32.heap[gb350]? = some (.cells #[.slice A0_0 l0_0.length c0_0, .slice A0_1 l0_1.length c0_1, .slice (some ad353) l0_2.length c0_2, .slice A0_3 l0_3.length c0_3] 27 (0, 0))) := ⟨(by rw [hw]; exact (bf BK350))⟩; have n1_ : Aside0 (w32.heap[gb351]? = some (.cells #[.slice A0_0 l0_0.length c0_0, .slice A0_1 l0_1.length c0_1, .slice (some ad353) l0_2.length c0_2, .slice A0_3 l0_3.length c0_3] 58 (0, 0))) := ⟨(by rw [hw]; exact (bf BK351))⟩; have n2_ : Aside0 (w32.heap[gb354]? = some (.cells #[.string ((rd_T38 l0_2 x25_1).f0), .slice A353_1 ((rd_T38 l0_2 x25_1).f1).length c353_1, .slice A353_2 ((rd_T38 l0_2 x25_1).f2).length c353_2] 38 (0, 0))) := ⟨(by rw [hw]; exact (bp BK354))⟩; have n3_ : Aside0 (Below w.heap.size w w32) := ⟨(by rw [hw]; exact bq)⟩; clear hw; clear BK350; clear BK351; clear BK354; clear HB; have BK350 := n0_; have BK351 := n1_; have BK354 := n2_; have HB := n3_; clear n0_ n1_ n2_ n3_; have hnb33 := NB351_350.out; have hnc33 := NB350_351.out; obtain ⟨zby, zbz, zca, zcb, zcc, zcd, zce, zcf⟩ := bc4 BK351; have q35 : (x25_1 : Int) ≤ ((l0_2.length : Int) : Int) := oq; obtain ⟨i035, hi035, _, hsz35, _⟩ := info_parts info38; have hroom35 : l0_2.length ≤ c0_2 := HC0_2.out; have hC35 : Kd.C k38 _ (some ad353) l0_2.length l0_2 := HR0_2.out; have hcut35 := cut_to (P := Tryz.prog) 24 38 .i64 Tryz.underlying24 hi035 (some ad353) l0_2.length c0_2 x25_1 (oq) q35 hroom35; have hr35 := Kd.C_take (m := (x25_1 : Int).toNat) hC35 (by omega); have hy35 : y355.length = (x25_1 : Int).toNat := (by rw [Ny355.out, List.length_take]; omega); rw [← Ny355.out] at hr35; rw [← hy35] at hcut35; have HR358 := am hr35; have HC358 := am (show y355.length ≤ c0_2 from by omega); clear hr35 hC35 hroom35 hi035 hsz35; have KY35 := am hy35; clear hy35; replace q35 := eq_true q35; obtain ⟨zcg, zch, zci, zcj, zck, zcl⟩ := bc3 BK354) | ((with_reducible refine gate_callee (f := 15) rfl ?_); refine gL (some 36) Tryz.func15 #[.slice (some ad353) y355.length c0_2, .func (.func 16) #[] #[.pointer (some ⟨gb354, 0, none⟩)]] ?_; (with_reducible refine (api_Paradigm_15.calls _ _ y355 ((rd_T38 l0_2 x25_1).f0) false gb354 _ ?side1 ?side2 ?clo_ A16.out).mono ?_); (case clo_ => refine Eq.trans (blk_cell (g := gb354) (cs := #[.string ((rd_T38 l0_2 x25_1).f0), .slice A353_1 ((rd_T38 l0_2 x25_1).f1).length c353_1, .slice A353_2 ((rd_T38 l0_2 x25_1).f2).length c353_2]) (t := 38) ?_ 0) rfl; (with_reducible repeat (first | refine blk_drewN ?_ _ | refine blk_drew ?_ | refine blk_alloc ?_ _)); exact BK354.out); (case side1 => repeat (first | exact (Kd.C_below HR358.out HB.out) | (with_reducible refine Kd.C_alloc ?_ _) | (with_reducible refine Kd.C_drewN ?_ _) | (with_reducible refine Kd.C_drew ?_))); (case side2 => exact HC358.out); rintro e w37 ⟨rfl, hb⟩; refine ⟨_, rfl, ?_⟩; replace BK350 := bk BK350 hb; replace BK351 := bk BK351 hb; replace BK354 := bk BK354 hb; replace HB := bs hb; (try clear hb)))
        go_roundg k1
        case measure => have := HK1.out; omega
        case rel => exact ⟨(wrap64 (x25_1 + 1)), rq, H', ⟨by have := HK1.out; omega⟩, ⟨bd BK350⟩, ⟨bd BK351⟩, ⟨bq⟩⟩
       rw [if_neg c15] at H
       exact absurd H (by simp)
      rw [if_neg c13] at H
      exact absurd H (by simp)
     rw [if_neg c12] at H
     exact absurd H (by simp)
    rw [if_neg c11] at H
    have c11b0 : decide (x25_1 < (l0_2.length : Int)) = false := decide_eq_false c11
    clear c11
    have H' := am H
    clear H
    have hnb38 := NB351_350.out
    have hnc38 := NB350_351.out
    obtain ⟨zcm, zcn, zco, zcp, zcq, zcr, zcs, zct⟩ := bc4 BK351
    go_wp2
    go_loopg [42] k1 (fun kq v42 w' => ∃ (x42_2 : Int), v42 = .int .i64 x42_2 ∧ Aside0 (morphology_Check.l1 kq l0_3 (l0_3.length : Int) x42_2 l0_0 l0_1 l0_2 l0_3 = some r) ∧ Aside0 (kq ≤ k1) ∧ Aside0 (w'.heap[gb350]? = some (.cells #[(.slice A0_0 l0_0.length c0_0), (.slice A0_1 l0_1.length c0_1), (.slice A0_2 l0_2.length c0_2), (.slice A0_3 l0_3.length c0_3)] 27 (0, 0))) ∧ Aside0 (w'.heap[gb351]? = some (.cells #[(.slice A0_0 l0_0.length c0_0), (.slice A0_1 l0_1.length c0_1), (.slice A0_2 l0_2.length c0_2), (.slice A0_3 l0_3.length c0_3)] 58 (0, 0))) ∧ Aside0 (Below w.heap.size w w'))
    case atStart => exact ⟨(0), rq, H', ⟨Nat.le_refl _⟩, ⟨bd BK350⟩, ⟨bd BK351⟩, ⟨bq⟩⟩
    case round =>
     clear H'
     clear c11b0 zcm zcn zco zcp zcq zcr zcs zct
     obtain ⟨x42_2, rfl, HA, HK2, BK350, BK351, HB⟩ := hrel
     cases gk with
     | zero => exact absurd HA.out (by simp [morphology_Check.l1])
     | succ k2 =>
      have H := HA.out
      clear HA
      simp only [morphology_Check.l1] at H
      by_cases c40 : x42_2 < (l0_3.length : Int)
      ·rw [if_pos c40] at H
       have c40b0 : decide (x42_2 < (l0_3.length : Int)) = true := decide_eq_true c40
       clear c40
       by_cases c41 : 0 ≤ x42_2
       ·rw [if_pos c41] at H
        have c41b0 : decide (0 ≤ x42_2) = true := decide_eq_true c41
        clear c41
        by_cases c42 : x42_2 < (l0_3.length : Int)
        ·rw [if_pos c42] at H
         have c42b0 : decide (x42_2 < (l0_3.length : Int)) = true := decide_eq_true c42
         clear c42
         replace H := Option.bind_eq_some_iff.mp H
         obtain ⟨⟨t362, t363, t366, t369⟩, A430, H⟩ := H
         (try dsimp only at H)
         have A43 := am A430
         clear A430
         by_cases c44 : t369 = true
         ·subst c44
          rw [if_pos rfl] at H
          have H' := am H
          clear H
          have p360 : 0 ≤ (x42_2 : Int) := oq
          have q360 : x42_2 < (l0_3.length : Int) := oq
          obtain ⟨ad360, A360_4, c360_4, e360, hx360_0, hx360_1, hx360_2, hx360_3, hx360_4, hl360_4, hi360_4⟩ := at_T34 HR0_3.out x42_2 p360 q360
          cases e360
          replace hx360_0 := cw hx360_0
          replace hx360_1 := cw hx360_1
          replace hx360_2 := cw hx360_2
          replace hx360_3 := cw hx360_3
          replace hx360_4 := cw hx360_4
          have HR360_4 := am hi360_4
          have HC360_4 := am hl360_4
          clear hi360_4 hl360_4
          replace p360 := eq_true p360
          replace q360 := eq_true q360
          go_wp2_with (first | ((with_reducible refine gate_dst (N := 7) rfl ?_); refine bx 7 #[.string (⟨#[]⟩ : ByteArray), .string (⟨#[]⟩ : ByteArray), .string (⟨#[]⟩ : ByteArray), .string (⟨#[]⟩ : ByteArray), .slice none 0 0] 34 ?_; intro gb361 hg w45 hbox hb; have BK361 := am hbox; have GE361 := sz hg; have NB350_361 := nl hg BK350; have NB361_350 := ng hg BK350; have NB351_361 := nl hg BK351; have NB361_351 := ng hg BK351; replace BK350 := bk BK350 hb; replace BK351 := bk BK351 hb; replace HB := bs hb; clear hb hbox hg; have hnb46 := NB361_350.out; have hnc46 := NB350_361.out; have hnb47 := NB361_351.out; have hnc47 := NB351_361.out; obtain ⟨zcu, zcv, zcw, zcx, zcy, zcz, zda, zdb, zdc, zdd⟩ := bc5 BK361) | ((with_reducible refine gate_store (t := 34) (p := 7) rfl ?_); refine store_event (t := 34) (p := 7) (v := ?vo_w49) (w1 := (((((w45.setCell ⟨gb361, 0, none⟩ (.string ((rd_T34 l0_3 x42_2).f0))).setCell ⟨gb361, 1, none⟩ (.string ((rd_T34 l0_3 x42_2).f1))).setCell ⟨gb361, 2, none⟩ (.string ((rd_T34 l0_3 x42_2).f2))).setCell ⟨gb361, 3, none⟩ (.string ((rd_T34 l0_3 x42_2).f3))).setCell ⟨gb361, 4, none⟩ (.slice A360_4 ((rd_T34 l0_3 x42_2).f4).length c360_4))) ?hg ?ho ?hn ?hr ?_; (case ho => rfl); (case hg => rfl); (case hn => rfl); (case hr => first | (go_simp; done) | (go_simp; rfl)); intro w49 hw; have n0_ : Aside0 (w49.heap[gb350]? = some (.cells #[.slice A0_0 l0_0.length c0_0, .slice A0_1 l0_1.length c0_1, .slice A0_2 l0_2.length c0_2, .slice (some ad360) l0_3.length c0_3] 27 (0, 0))) := ⟨(by rw [hw]; exact (bf BK350))⟩; have n1_ : Aside0 (w49.heap[gb351]? = some (.cells #[.slice A0_0 l0_0.length c0_0, .slice A0_1 l0_1.length c0_1, .slice A0_2 l0_2.length c0_2, .slice (some ad360) l0_3.length c0_3] 58 (0, 0))) := ⟨(by rw [hw]; exact (bf BK351))⟩; have n2_ : Aside0 (w49.heap[gb361]? = some (.cells #[.string ((rd_T34 l0_3 x42_2).f0), .string ((rd_T34 l0_3 x42_2).f1), .string ((rd_T34 l0_3 x42_2).f2), .string ((rd_T34 l0_3 x42_2).f3), .slice A360_4 ((rd_T34 l0_3 x42_2).f4).length c360_4] 34 (0, 0))) := ⟨(by rw [hw]; exact (bp BK361))⟩; have n3_ : Aside0 (Below w.heap.size w w49) := ⟨(by rw [hw]; exact bq)⟩; clear hw; clear BK350; clear BK351; clear BK361; clear HB; have BK350 := n0_; have BK351 := n1_; have BK361 := n2_; have HB := n3_; clear n0_ n1_ n2_ n3_; have hnb50 := NB351_350.out; have hnc50 := NB350_351.out; obtain ⟨zde, zdf, zdg, zdh, zdi, zdj, zdk, zdl⟩ := bc4 BK351; obtain ⟨zdm, zdn, zdo, zdp, zdq, zdr, zds, zdt, zdu, zdv⟩ := bc5 BK361) | ((with_reducible refine gate_callee (f := 17) rfl ?_); refine gL (some 50) Tryz.func17 #[.agg #[.slice A0_0 l0_0.length c0_0, .slice A0_1 l0_1.length c0_1, .slice A0_2 l0_2.length c0_2, .slice (some ad360) l0_3.length c0_3], .string ((rd_T34 l0_3 x42_2).f3)] ?_; (with_reducible refine (morphology_words_paradigm.calls k2 _ _ l0_0 _ _ l0_1 (fun k_ => k_ < w.heap.size) _ _ l0_2 _ _ l0_3 ((rd_T34 l0_3 x42_2).f3) t362 t363 t366 true _ (cq HR0_0) HC0_0.out (cq HR0_1) HC0_1.out ?side5 ?side6 ?side7 A43.out).mono ?_); (case side5 => exact Kd.V_mk HC0_2.out (Kd.F_below (Kd.C_F k38_heap HR0_2.out) bq)); (case side6 => repeat (first | exact (Kd.C_below HR0_3.out HB.out) | (with_reducible refine Kd.C_alloc ?_ _) | (with_reducible refine Kd.C_drewN ?_ _) | (with_reducible refine Kd.C_drew ?_))); (case side7 => exact HC0_3.out); rintro e w53 ⟨v364, v367, rfl, ho0, ho1, hb⟩; refine ⟨_, rfl, ?_⟩; have HO365 := am (Kd.V_lower (Kd.V_mono (ok' := fun k_ => k_ ≠ gb350 ∧ k_ ≠ gb351 ∧ k_ ≠ gb361) ho0 (fun k_ hk_ => ⟨Or.elim hk_ (fun hs_ => fun e_ => Nat.not_le.2 hs_ (by rw [e_]; exact GE350.out)) (fun hn_ => (Kd.freshB (g := gb350) (o := .cells #[.slice A0_0 l0_0.length c0_0, .slice A0_1 l0_1.length c0_1, .slice A0_2 l0_2.length c0_2, .slice (some ad360) l0_3.length c0_3] 27 (0, 0)) (bd BK350) k_ hn_)), Or.elim hk_ (fun hs_ => fun e_ => Nat.not_le.2 hs_ (by rw [e_]; exact GE351.out)) (fun hn_ => (Kd.freshB (g := gb351) (o := .cells #[.slice A0_0 l0_0.length c0_0, .slice A0_1 l0_1.length c0_1, .slice A0_2 l0_2.length c0_2, .slice (some ad360) l0_3.length c0_3] 58 (0, 0)) (bd BK351) k_ hn_)), Or.elim hk_ (fun hs_ => fun e_ => Nat.not_le.2 hs_ (by rw [e_]; exact GE361.out)) (fun hn_ => (Kd.freshB (g := gb361) (o := .cells #[.string ((rd_T34 l0_3 x42_2).f0), .string ((rd_T34 l0_3 x42_2).f1), .string ((rd_T34 l0_3 x42_2).f2), .string ((rd_T34 l0_3 x42_2).f3), .slice A360_4 ((rd_T34 l0_3 x42_2).f4).length c360_4] 34 (0, 0)) (bd BK361) k_ hn_))⟩)) (below_size bq)); have HO368 := am (Kd.V_lower (Kd.V_mono (ok' := fun k_ => k_ ≠ gb350 ∧ k_ ≠ gb351 ∧ k_ ≠ gb361) ho1 (fun k_ hk_ => ⟨Or.elim hk_ (fun hs_ => fun e_ => Nat.not_le.2 hs_ (by rw [e_]; exact GE350.out)) (fun hn_ => (Kd.freshB (g := gb350) (o := .cells #[.slice A0_0 l0_0.length c0_0, .slice A0_1 l0_1.length c0_1, .slice A0_2 l0_2.length c0_2, .slice (some ad360) l0_3.length c0_3] 27 (0, 0)) (bd BK350) k_ hn_)), Or.elim hk_ (fun hs_ => fun e_ => Nat.not_le.2 hs_ (by rw [e_]; exact GE351.out)) (fun hn_ => (Kd.freshB (g := gb351) (o := .cells #[.slice A0_0 l0_0.length c0_0, .slice A0_1 l0_1.length c0_1, .slice A0_2 l0_2.length c0_2, .slice (some ad360) l0_3.length c0_3] 58 (0, 0)) (bd BK351) k_ hn_)), Or.elim hk_ (fun hs_ => fun e_ => Nat.not_le.2 hs_ (by rw [e_]; exact GE361.out)) (fun hn_ => (Kd.freshB (g := gb361) (o := .cells #[.string ((rd_T34 l0_3 x42_2).f0), .string ((rd_T34 l0_3 x42_2).f1), .string ((rd_T34 l0_3 x42_2).f2), .string ((rd_T34 l0_3 x42_2).f3), .slice A360_4 ((rd_T34 l0_3 x42_2).f4).length c360_4] 34 (0, 0)) (bd BK361) k_ hn_))⟩)) (below_size bq)); replace BK350 := bk BK350 hb; replace BK351 := bk BK351 hb; replace BK361 := bk BK361 hb; replace HB := bs hb; (try clear hb); (try clear ho0); (try clear ho1)) | ((with_reducible refine gate_dst (N := 8) rfl ?_); refine bx 8 #[.string (⟨#[]⟩ : ByteArray), .slice none 0 0, .slice none 0 0] 38 ?_; intro gb370 hg w54 hbox hb; have BK370 := am hbox; have GE370 := sz hg; have NB350_370 := nl hg BK350; have NB370_350 := ng hg BK350; have NB351_370 := nl hg BK351; have NB370_351 := ng hg BK351; have NB361_370 := nl hg BK361; have NB370_361 := ng hg BK361; replace HO365 := am (Kd.V_below (Kd.V_elderB (rV HO365) gb370 (Nat.le_of_eq hg.symm)) hb); replace HO368 := am (Kd.V_below (Kd.V_elderB (rV HO368) gb370 (Nat.le_of_eq hg.symm)) hb); replace BK350 := bk BK350 hb; replace BK351 := bk BK351 hb; replace BK361 := bk BK361 hb; replace HB := bs hb; clear hb hbox hg; have hnb55 := NB370_350.out; have hnc55 := NB350_370.out; have hnb56 := NB370_351.out; have hnc56 := NB351_370.out; have hnb57 := NB370_361.out; have hnc57 := NB361_370.out; obtain ⟨zdw, zdx, zdy, zdz, zea, zeb⟩ := bc3 BK370; obtain ⟨Ao59, co59, eo59⟩ := Kd.V_slice HO365.out; subst eo59; obtain ⟨Ao60, co60, eo60⟩ := Kd.V_slice HO368.out; subst eo60))
          go_roundg k2
          case measure => have := HK1.out; have := HK2.out; omega
          case rel => exact ⟨(wrap64 (x42_2 + 1)), rq, H', ⟨by have := HK1.out; have := HK2.out; omega⟩, ⟨bf BK350⟩, ⟨bf BK351⟩, ⟨bq⟩⟩
         replace c44 := Bool.eq_false_iff.mpr c44
         subst c44
         rw [if_neg nf] at H
         by_cases c61 : ((rd_T34 l0_3 x42_2).f3).toList = ([] : List UInt8)
         ·rw [if_pos c61] at H
          have c61b0 : (((rd_T34 l0_3 x42_2).f3).toList == ([] : List UInt8)) = true := beq_iff_eq.mpr c61
          have c61b1 : (((rd_T34 l0_3 x42_2).f3).toList != ([] : List UInt8)) = false := bne_eq_false_iff_eq.mpr c61
          clear c61
          have H' := am H
          clear H
          have p360 : 0 ≤ (x42_2 : Int) := oq
          have q360 : x42_2 < (l0_3.length : Int) := oq
          obtain ⟨ad360, A360_4, c360_4, e360, hx360_0, hx360_1, hx360_2, hx360_3, hx360_4, hl360_4, hi360_4⟩ := at_T34 HR0_3.out x42_2 p360 q360
          cases e360
          replace hx360_0 := cw hx360_0
          replace hx360_1 := cw hx360_1
          replace hx360_2 := cw hx360_2
          replace hx360_3 := cw hx360_3
          replace hx360_4 := cw hx360_4
          have HR360_4 := am hi360_4
          have HC360_4 := am hl360_4
          clear hi360_4 hl360_4
          replace p360 := eq_true p360
          replace q360 := eq_true q360
          go_wp2_with (first | ((with_reducible refine gate_dst (N := 7) rfl ?_); refine bx 7 #[.string (⟨#[]⟩ : ByteArray), .string (⟨#[]⟩ : ByteArray), .string (⟨#[]⟩ : ByteArray), .string (⟨#[]⟩ : ByteArray), .slice none 0 0] 34 ?_; intro gb361 hg w62 hbox hb; have BK361 := am hbox; have GE361 := sz hg; have NB350_361 := nl hg BK350; have NB361_350 := ng hg BK350; have NB351_361 := nl hg BK351; have NB361_351 := ng hg BK351; replace BK350 := bk BK350 hb; replace BK351 := bk BK351 hb; replace HB := bs hb; clear hb hbox hg; have hnb63 := NB361_350.out; have hnc63 := NB350_361.out; have hnb64 := NB361_351.out; have hnc64 := NB351_361.out; obtain ⟨zec, zed, zee, zef, zeg, zeh, zei, zej, zek, zel⟩ := bc5 BK361) | ((with_reducible refine gate_store (t := 34) (p := 7) rfl ?_); refine store_event (t := 34) (p := 7) (v := ?vo_w66) (w1 := (((((w62.setCell ⟨gb361, 0, none⟩ (.string ((rd_T34 l0_3 x42_2).f0))).setCell ⟨gb361, 1, none⟩ (.string ((rd_T34 l0_3 x42_2).f1))).setCell ⟨gb361, 2, none⟩ (.string ((rd_T34 l0_3 x42_2).f2))).setCell ⟨gb361, 3, none⟩ (.string ((rd_T34 l0_3 x42_2).f3))).setCell ⟨gb361, 4, none⟩ (.slice A360_4 ((rd_T34 l0_3 x42_2).f4).length c360_4))) ?hg ?ho ?hn ?hr ?_; (case ho => rfl); (case hg => rfl); (case hn => rfl); (case hr => first | (go_simp; done) | (go_simp; rfl)); intro w66 hw; have n0_ : Aside0 (w66.heap[gb350]? = some (.cells #[.slice A0_0 l0_0.length c0_0, .slice A0_1 l0_1.length c0_1, .slice A0_2 l0_2.length c0_2, .slice (some ad360) l0_3.length c0_3] 27 (0, 0))) := ⟨(by rw [hw]; exact (bf BK350))⟩; have n1_ : Aside0 (w66.heap[gb351]? = some (.cells #[.slice A0_0 l0_0.length c0_0, .slice A0_1 l0_1.length c0_1, .slice A0_2 l0_2.length c0_2, .slice (some ad360) l0_3.length c0_3] 58 (0, 0))) := ⟨(by rw [hw]; exact (bf BK351))⟩; have n2_ : Aside0 (w66.heap[gb361]? = some (.cells #[.string ((rd_T34 l0_3 x42_2).f0), .string ((rd_T34 l0_3 x42_2).f1), .string ((rd_T34 l0_3 x42_2).f2), .string ((rd_T34 l0_3 x42_2).f3), .slice A360_4 ((rd_T34 l0_3 x42_2).f4).length c360_4] 34 (0, 0))) := ⟨(by rw [hw]; exact (bp BK361))⟩; have n3_ : Aside0 (Below w.heap.size w w66) := ⟨(by rw [hw]; exact bq)⟩; clear hw; clear BK350; clear BK351; clear BK361; clear HB; have BK350 := n0_; have BK351 := n1_; have BK361 := n2_; have HB := n3_; clear n0_ n1_ n2_ n3_; have hnb67 := NB351_350.out; have hnc67 := NB350_351.out; obtain ⟨zem, zen, zeo, zep, zeq, zer, zes, zet⟩ := bc4 BK351; obtain ⟨zeu, zev, zew, zex, zey, zez, zfa, zfb, zfc, zfd⟩ := bc5 BK361) | ((with_reducible refine gate_callee (f := 17) rfl ?_); refine gL (some 50) Tryz.func17 #[.agg #[.slice A0_0 l0_0.length c0_0, .slice A0_1 l0_1.length c0_1, .slice A0_2 l0_2.length c0_2, .slice (some ad360) l0_3.length c0_3], .string ((rd_T34 l0_3 x42_2).f3)] ?_; (with_reducible refine (morphology_words_paradigm.calls k2 _ _ l0_0 _ _ l0_1 (fun k_ => k_ < w.heap.size) _ _ l0_2 _ _ l0_3 ((rd_T34 l0_3 x42_2).f3) t362 t363 t366 false _ (cq HR0_0) HC0_0.out (cq HR0_1) HC0_1.out ?side5 ?side6 ?side7 A43.out).mono ?_); (case side5 => exact Kd.V_mk HC0_2.out (Kd.F_below (Kd.C_F k38_heap HR0_2.out) bq)); (case side6 => repeat (first | exact (Kd.C_below HR0_3.out HB.out) | (with_reducible refine Kd.C_alloc ?_ _) | (with_reducible refine Kd.C_drewN ?_ _) | (with_reducible refine Kd.C_drew ?_))); (case side7 => exact HC0_3.out); rintro e w70 ⟨v364, v367, rfl, ho0, ho1, hb⟩; refine ⟨_, rfl, ?_⟩; have HO365 := am (Kd.V_lower (Kd.V_mono (ok' := fun k_ => k_ ≠ gb350 ∧ k_ ≠ gb351 ∧ k_ ≠ gb361) ho0 (fun k_ hk_ => ⟨Or.elim hk_ (fun hs_ => fun e_ => Nat.not_le.2 hs_ (by rw [e_]; exact GE350.out)) (fun hn_ => (Kd.freshB (g := gb350) (o := .cells #[.slice A0_0 l0_0.length c0_0, .slice A0_1 l0_1.length c0_1, .slice A0_2 l0_2.length c0_2, .slice (some ad360) l0_3.length c0_3] 27 (0, 0)) (bd BK350) k_ hn_)), Or.elim hk_ (fun hs_ => fun e_ => Nat.not_le.2 hs_ (by rw [e_]; exact GE351.out)) (fun hn_ => (Kd.freshB (g := gb351) (o := .cells #[.slice A0_0 l0_0.length c0_0, .slice A0_1 l0_1.length c0_1, .slice A0_2 l0_2.length c0_2, .slice (some ad360) l0_3.length c0_3] 58 (0, 0)) (bd BK351) k_ hn_)), Or.elim hk_ (fun hs_ => fun e_ => Nat.not_le.2 hs_ (by rw [e_]; exact GE361.out)) (fun hn_ => (Kd.freshB (g := gb361) (o := .cells #[.string ((rd_T34 l0_3 x42_2).f0), .string ((rd_T34 l0_3 x42_2).f1), .string ((rd_T34 l0_3 x42_2).f2), .string ((rd_T34 l0_3 x42_2).f3), .slice A360_4 ((rd_T34 l0_3 x42_2).f4).length c360_4] 34 (0, 0)) (bd BK361) k_ hn_))⟩)) (below_size bq)); have HO368 := am (Kd.V_lower (Kd.V_mono (ok' := fun k_ => k_ ≠ gb350 ∧ k_ ≠ gb351 ∧ k_ ≠ gb361) ho1 (fun k_ hk_ => ⟨Or.elim hk_ (fun hs_ => fun e_ => Nat.not_le.2 hs_ (by rw [e_]; exact GE350.out)) (fun hn_ => (Kd.freshB (g := gb350) (o := .cells #[.slice A0_0 l0_0.length c0_0, .slice A0_1 l0_1.length c0_1, .slice A0_2 l0_2.length c0_2, .slice (some ad360) l0_3.length c0_3] 27 (0, 0)) (bd BK350) k_ hn_)), Or.elim hk_ (fun hs_ => fun e_ => Nat.not_le.2 hs_ (by rw [e_]; exact GE351.out)) (fun hn_ => (Kd.freshB (g := gb351) (o := .cells #[.slice A0_0 l0_0.length c0_0, .slice A0_1 l0_1.length c0_1, .slice A0_2 l0_2.length c0_2, .slice (some ad360) l0_3.length c0_3] 58 (0, 0)) (bd BK351) k_ hn_)), Or.elim hk_ (fun hs_ => fun e_ => Nat.not_le.2 hs_ (by rw [e_]; exact GE361.out)) (fun hn_ => (Kd.freshB (g := gb361) (o := .cells #[.string ((rd_T34 l0_3 x42_2).f0), .string ((rd_T34 l0_3 x42_2).f1), .string ((rd_T34 l0_3 x42_2).f2), .string ((rd_T34 l0_3 x42_2).f3), .slice A360_4 ((rd_T34 l0_3 x42_2).f4).length c360_4] 34 (0, 0)) (bd BK361) k_ hn_))⟩)) (below_size bq)); replace BK350 := bk BK350 hb; replace BK351 := bk BK351 hb; replace BK361 := bk BK361 hb; replace HB := bs hb; (try clear hb); (try clear ho0); (try clear ho1)) | ((with_reducible refine gate_dst (N := 8) rfl ?_); refine bx 8 #[.string (⟨#[]⟩ : ByteArray), .slice none 0 0, .slice none 0 0] 38 ?_; intro gb370 hg w71 hbox hb; have BK370 := am hbox; have GE370 := sz hg; have NB350_370 := nl hg BK350; have NB370_350 := ng hg BK350; have NB351_370 := nl hg BK351; have NB370_351 := ng hg BK351; have NB361_370 := nl hg BK361; have NB370_361 := ng hg BK361; replace HO365 := am (Kd.V_below (Kd.V_elderB (rV HO365) gb370 (Nat.le_of_eq hg.symm)) hb); replace HO368 := am (Kd.V_below (Kd.V_elderB (rV HO368) gb370 (Nat.le_of_eq hg.symm)) hb); replace BK350 := bk BK350 hb; replace BK351 := bk BK351 hb; replace BK361 := bk BK361 hb; replace HB := bs hb; clear hb hbox hg; have hnb72 := NB370_350.out; have hnc72 := NB350_370.out; have hnb73 := NB370_351.out; have hnc73 := NB351_370.out; have hnb74 := NB370_361.out; have hnc74 := NB361_370.out; obtain ⟨zfe, zff, zfg, zfh, zfi, zfj⟩ := bc3 BK370; obtain ⟨Ao76, co76, eo76⟩ := Kd.V_slice HO365.out; subst eo76; obtain ⟨Ao77, co77, eo77⟩ := Kd.V_slice HO368.out; subst eo77; obtain ⟨zfk, zfl, zfm, zfn, zfo, zfp, zfq, zfr, zfs, zft⟩ := bc5 BK361))
          go_roundg k2
          case measure => have := HK1.out; have := HK2.out; omega
          case rel => exact ⟨(wrap64 (x42_2 + 1)), rq, H', ⟨by have := HK1.out; have := HK2.out; omega⟩, ⟨bf BK350⟩, ⟨bf BK351⟩, ⟨bq⟩⟩
         rw [if_neg c61] at H
         have c61b0 : (((rd_T34 l0_3 x42_2).f3).toList == ([] : List UInt8)) = false := beq_eq_false_iff_ne.mpr c61
         have c61b1 : (((rd_T34 l0_3 x42_2).f3).toList != ([] : List UInt8)) = true := bne_iff_ne.mpr c61
         obtain rfl := Option.some.inj H
         have p360 : 0 ≤ (x42_2 : Int) := oq
         have q360 : x42_2 < (l0_3.length : Int) := oq
         obtain ⟨ad360, A360_4, c360_4, e360, hx360_0, hx360_1, hx360_2, hx360_3, hx360_4, hl360_4, hi360_4⟩ := at_T34 HR0_3.out x42_2 p360 q360
         cases e360
         replace hx360_0 := cw hx360_0
         replace hx360_1 := cw hx360_1
         replace hx360_2 := cw hx360_2
         replace hx360_3 := cw hx360_3
         replace hx360_4 := cw hx360_4
         have HR360_4 := am hi360_4
         have HC360_4 := am hl360_4
         clear hi360_4 hl360_4
         replace p360 := eq_true p360
         replace q360 := eq_true q360
         go_wp2_with (first | ((with_reducible refine gate_dst (N := 7) rfl ?_); refine bx 7 #[.string (⟨#[]⟩ : ByteArray), .string (⟨#[]⟩ : ByteArray), .string (⟨#[]⟩ : ByteArray), .string (⟨#[]⟩ : ByteArray), .slice none 0 0] 34 ?_; intro gb361 hg w79 hbox hb; have BK361 := am hbox; have GE361 := sz hg; have NB350_361 := nl hg BK350; have NB361_350 := ng hg BK350; have NB351_361 := nl hg BK351; have NB361_351 := ng hg BK351; replace BK350 := bk BK350 hb; replace BK351 := bk BK351 hb; replace HB := bs hb; clear hb hbox hg; have hnb80 := NB361_350.out; have hnc80 := NB350_361.out; have hnb81 := NB361_351.out; have hnc81 := NB351_361.out; obtain ⟨zfu, zfv, zfw, zfx, zfy, zfz, zga, zgb, zgc, zgd⟩ := bc5 BK361) | ((with_reducible refine gate_store (t := 34) (p := 7) rfl ?_); refine store_event (t := 34) (p := 7) (v := ?vo_w83) (w1 := (((((w79.setCell ⟨gb361, 0, none⟩ (.string ((rd_T34 l0_3 x42_2).f0))).setCell ⟨gb361, 1, none⟩ (.string ((rd_T34 l0_3 x42_2).f1))).setCell ⟨gb361, 2, none⟩ (.string ((rd_T34 l0_3 x42_2).f2))).setCell ⟨gb361, 3, none⟩ (.string ((rd_T34 l0_3 x42_2).f3))).setCell ⟨gb361, 4, none⟩ (.slice A360_4 ((rd_T34 l0_3 x42_2).f4).length c360_4))) ?hg ?ho ?hn ?hr ?_; (case ho => rfl); (case hg => rfl); (case hn => rfl); (case hr => first | (go_simp; done) | (go_simp; rfl)); intro w83 hw; have n0_ : Aside0 (w83.heap[gb350]? = some (.cells #[.slice A0_0 l0_0.length c0_0, .slice A0_1 l0_1.length c0_1, .slice A0_2 l0_2.length c0_2, .slice (some ad360) l0_3.length c0_3] 27 (0, 0))) := ⟨(by rw [hw]; exact (bf BK350))⟩; have n1_ : Aside0 (w83.heap[gb351]? = some (.cells #[.slice A0_0 l0_0.length c0_0, .slice A0_1 l0_1.length c0_1, .slice A0_2 l0_2.length c0_2, .slice (some ad360) l0_3.length c0_3] 58 (0, 0))) := ⟨(by rw [hw]; exact (bf BK351))⟩; have n2_ : Aside0 (w83.heap[gb361]? = some (.cells #[.string ((rd_T34 l0_3 x42_2).f0), .string ((rd_T34 l0_3 x42_2).f1), .string ((rd_T34 l0_3 x42_2).f2), .string ((rd_T34 l0_3 x42_2).f3), .slice A360_4 ((rd_T34 l0_3 x42_2).f4).length c360_4] 34 (0, 0))) := ⟨(by rw [hw]; exact (bp BK361))⟩; have n3_ : Aside0 (Below w.heap.size w w83) := ⟨(by rw [hw]; exact bq)⟩; clear hw; clear BK350; clear BK351; clear BK361; clear HB; have BK350 := n0_; have BK351 := n1_; have BK361 := n2_; have HB := n3_; clear n0_ n1_ n2_ n3_; have hnb84 := NB351_350.out; have hnc84 := NB350_351.out; obtain ⟨zge, zgf, zgg, zgh, zgi, zgj, zgk, zgl⟩ := bc4 BK351; obtain ⟨zgm, zgn, zgo, zgp, zgq, zgr, zgs, zgt, zgu, zgv⟩ := bc5 BK361) | ((with_reducible refine gate_callee (f := 17) rfl ?_); refine gL (some 50) Tryz.func17 #[.agg #[.slice A0_0 l0_0.length c0_0, .slice A0_1 l0_1.length c0_1, .slice A0_2 l0_2.length c0_2, .slice (some ad360) l0_3.length c0_3], .string ((rd_T34 l0_3 x42_2).f3)] ?_; (with_reducible refine (morphology_words_paradigm.calls k2 _ _ l0_0 _ _ l0_1 (fun k_ => k_ < w.heap.size) _ _ l0_2 _ _ l0_3 ((rd_T34 l0_3 x42_2).f3) t362 t363 t366 false _ (cq HR0_0) HC0_0.out (cq HR0_1) HC0_1.out ?side5 ?side6 ?side7 A43.out).mono ?_); (case side5 => exact Kd.V_mk HC0_2.out (Kd.F_below (Kd.C_F k38_heap HR0_2.out) bq)); (case side6 => repeat (first | exact (Kd.C_below HR0_3.out HB.out) | (with_reducible refine Kd.C_alloc ?_ _) | (with_reducible refine Kd.C_drewN ?_ _) | (with_reducible refine Kd.C_drew ?_))); (case side7 => exact HC0_3.out); rintro e w87 ⟨v364, v367, rfl, ho0, ho1, hb⟩; refine ⟨_, rfl, ?_⟩; have HO365 := am (Kd.V_lower (Kd.V_mono (ok' := fun k_ => k_ ≠ gb350 ∧ k_ ≠ gb351 ∧ k_ ≠ gb361) ho0 (fun k_ hk_ => ⟨Or.elim hk_ (fun hs_ => fun e_ => Nat.not_le.2 hs_ (by rw [e_]; exact GE350.out)) (fun hn_ => (Kd.freshB (g := gb350) (o := .cells #[.slice A0_0 l0_0.length c0_0, .slice A0_1 l0_1.length c0_1, .slice A0_2 l0_2.length c0_2, .slice (some ad360) l0_3.length c0_3] 27 (0, 0)) (bd BK350) k_ hn_)), Or.elim hk_ (fun hs_ => fun e_ => Nat.not_le.2 hs_ (by rw [e_]; exact GE351.out)) (fun hn_ => (Kd.freshB (g := gb351) (o := .cells #[.slice A0_0 l0_0.length c0_0, .slice A0_1 l0_1.length c0_1, .slice A0_2 l0_2.length c0_2, .slice (some ad360) l0_3.length c0_3] 58 (0, 0)) (bd BK351) k_ hn_)), Or.elim hk_ (fun hs_ => fun e_ => Nat.not_le.2 hs_ (by rw [e_]; exact GE361.out)) (fun hn_ => (Kd.freshB (g := gb361) (o := .cells #[.string ((rd_T34 l0_3 x42_2).f0), .string ((rd_T34 l0_3 x42_2).f1), .string ((rd_T34 l0_3 x42_2).f2), .string ((rd_T34 l0_3 x42_2).f3), .slice A360_4 ((rd_T34 l0_3 x42_2).f4).length c360_4] 34 (0, 0)) (bd BK361) k_ hn_))⟩)) (below_size bq)); have HO368 := am (Kd.V_lower (Kd.V_mono (ok' := fun k_ => k_ ≠ gb350 ∧ k_ ≠ gb351 ∧ k_ ≠ gb361) ho1 (fun k_ hk_ => ⟨Or.elim hk_ (fun hs_ => fun e_ => Nat.not_le.2 hs_ (by rw [e_]; exact GE350.out)) (fun hn_ => (Kd.freshB (g := gb350) (o := .cells #[.slice A0_0 l0_0.length c0_0, .slice A0_1 l0_1.length c0_1, .slice A0_2 l0_2.length c0_2, .slice (some ad360) l0_3.length c0_3] 27 (0, 0)) (bd BK350) k_ hn_)), Or.elim hk_ (fun hs_ => fun e_ => Nat.not_le.2 hs_ (by rw [e_]; exact GE351.out)) (fun hn_ => (Kd.freshB (g := gb351) (o := .cells #[.slice A0_0 l0_0.length c0_0, .slice A0_1 l0_1.length c0_1, .slice A0_2 l0_2.length c0_2, .slice (some ad360) l0_3.length c0_3] 58 (0, 0)) (bd BK351) k_ hn_)), Or.elim hk_ (fun hs_ => fun e_ => Nat.not_le.2 hs_ (by rw [e_]; exact GE361.out)) (fun hn_ => (Kd.freshB (g := gb361) (o := .cells #[.string ((rd_T34 l0_3 x42_2).f0), .string ((rd_T34 l0_3 x42_2).f1), .string ((rd_T34 l0_3 x42_2).f2), .string ((rd_T34 l0_3 x42_2).f3), .slice A360_4 ((rd_T34 l0_3 x42_2).f4).length c360_4] 34 (0, 0)) (bd BK361) k_ hn_))⟩)) (below_size bq)); replace BK350 := bk BK350 hb; replace BK351 := bk BK351 hb; replace BK361 := bk BK361 hb; replace HB := bs hb; (try clear hb); (try clear ho0); (try clear ho1)) | ((with_reducible refine gate_dst (N := 8) rfl ?_); refine bx 8 #[.string (⟨#[]⟩ : ByteArray), .slice none 0 0, .slice none 0 0] 38 ?_; intro gb370 hg w88 hbox hb; have BK370 := am hbox; have GE370 := sz hg; have NB350_370 := nl hg BK350; have NB370_350 := ng hg BK350; have NB351_370 := nl hg BK351; have NB370_351 := ng hg BK351; have NB361_370 := nl hg BK361; have NB370_361 := ng hg BK361; replace HO365 := am (Kd.V_below (Kd.V_elderB (rV HO365) gb370 (Nat.le_of_eq hg.symm)) hb); replace HO368 := am (Kd.V_below (Kd.V_elderB (rV HO368) gb370 (Nat.le_of_eq hg.symm)) hb); replace BK350 := bk BK350 hb; replace BK351 := bk BK351 hb; replace BK361 := bk BK361 hb; replace HB := bs hb; clear hb hbox hg; have hnb89 := NB370_350.out; have hnc89 := NB350_370.out; have hnb90 := NB370_351.out; have hnc90 := NB351_370.out; have hnb91 := NB370_361.out; have hnc91 := NB361_370.out; obtain ⟨zgw, zgx, zgy, zgz, zha, zhb⟩ := bc3 BK370; obtain ⟨Ao93, co93, eo93⟩ := Kd.V_slice HO365.out; subst eo93; obtain ⟨Ao94, co94, eo94⟩ := Kd.V_slice HO368.out; subst eo94; obtain ⟨zhc, zhd, zhe, zhf, zhg, zhh, zhi, zhj, zhk, zhl⟩ := bc5 BK361))
         go_ret
         exact ⟨eq', bq⟩
        rw [if_neg c42] at H
        exact absurd H (by simp)
       rw [if_neg c41] at H
       exact absurd H (by simp)
      rw [if_neg c40] at H
      have c40b0 : decide (x42_2 < (l0_3.length : Int)) = false := decide_eq_false c40
      clear c40
      have H' := am H
      clear H
      have hnb96 := NB351_350.out
      have hnc96 := NB350_351.out
      obtain ⟨zhm, zhn, zho, zhp, zhq, zhr, zhs, zht⟩ := bc4 BK351
      go_wp2
      go_loopg [65] k2 (fun kq v65 w' => ∃ (x65_3 : Int), v65 = .int .i64 x65_3 ∧ Aside0 (morphology_Check.l2 kq l0_3 (l0_3.length : Int) x65_3 l0_0 l0_1 l0_2 l0_3 = some r) ∧ Aside0 (kq ≤ k2) ∧ Aside0 (w'.heap[gb350]? = some (.cells #[(.slice A0_0 l0_0.length c0_0), (.slice A0_1 l0_1.length c0_1), (.slice A0_2 l0_2.length c0_2), (.slice A0_3 l0_3.length c0_3)] 27 (0, 0))) ∧ Aside0 (w'.heap[gb351]? = some (.cells #[(.slice A0_0 l0_0.length c0_0), (.slice A0_1 l0_1.length c0_1), (.slice A0_2 l0_2.length c0_2), (.slice A0_3 l0_3.length c0_3)] 58 (0, 0))) ∧ Aside0 (Below w.heap.size w w'))
      case atStart => exact ⟨(0), rq, H', ⟨Nat.le_refl _⟩, ⟨bd BK350⟩, ⟨bd BK351⟩, ⟨bq⟩⟩
      case round =>
       clear H'
       clear c40b0 zhm zhn zho zhp zhq zhr zhs zht
       obtain ⟨x65_3, rfl, HA, HK3, BK350, BK351, HB⟩ := hrel
       cases gk with
       | zero => exact absurd HA.out (by simp [morphology_Check.l2])
       | succ k3 =>
        have H := HA.out
        clear HA
        simp only [morphology_Check.l2] at H
        by_cases c98 : x65_3 < (l0_3.length : Int)
        ·rw [if_pos c98] at H
         have c98b0 : decide (x65_3 < (l0_3.length : Int)) = true := decide_eq_true c98
         clear c98
         by_cases c99 : 0 ≤ x65_3
         ·rw [if_pos c99] at H
          have c99b0 : decide (0 ≤ x65_3) = true := decide_eq_true c99
          clear c99
          by_cases c100 : x65_3 < (l0_3.length : Int)
          ·rw [if_pos c100] at H
           have c100b0 : decide (x65_3 < (l0_3.length : Int)) = true := decide_eq_true c100
           clear c100
           replace H := Option.bind_eq_some_iff.mp H
           obtain ⟨⟨t373, t374, t377, t380⟩, A1010, H⟩ := H
           (try dsimp only at H)
           have A101 := am A1010
           clear A1010
           by_cases c102 : ((rd_T34 l0_3 x65_3).f3).toList = ([] : List UInt8)
           ·rw [if_pos c102] at H
            have c102b0 : (((rd_T34 l0_3 x65_3).f3).toList == ([] : List UInt8)) = true := beq_iff_eq.mpr c102
            have c102b1 : (((rd_T34 l0_3 x65_3).f3).toList != ([] : List UInt8)) = false := bne_eq_false_iff_eq.mpr c102
            clear c102
            have H' := am H
            clear H
            have p371 : 0 ≤ (x65_3 : Int) := oq
            have q371 : x65_3 < (l0_3.length : Int) := oq
            obtain ⟨ad371, A371_4, c371_4, e371, hx371_0, hx371_1, hx371_2, hx371_3, hx371_4, hl371_4, hi371_4⟩ := at_T34 HR0_3.out x65_3 p371 q371
            cases e371
            replace hx371_0 := cw hx371_0
            replace hx371_1 := cw hx371_1
            replace hx371_2 := cw hx371_2
            replace hx371_3 := cw hx371_3
            replace hx371_4 := cw hx371_4
            have HR371_4 := am hi371_4
            have HC371_4 := am hl371_4
            clear hi371_4 hl371_4
            replace p371 := eq_true p371
            replace q371 := eq_true q371
            go_wp2_with (first | ((with_reducible refine gate_dst (N := 11) rfl ?_); refine bx 11 #[.string (⟨#[]⟩ : ByteArray), .string (⟨#[]⟩ : ByteArray), .string (⟨#[]⟩ : ByteArray), .string (⟨#[]⟩ : ByteArray), .slice none 0 0] 34 ?_; intro gb372 hg w103 hbox hb; have BK372 := am hbox; have GE372 := sz hg; have NB350_372 := nl hg BK350; have NB372_350 := ng hg BK350; have NB351_372 := nl hg BK351; have NB372_351 := ng hg BK351; replace BK350 := bk BK350 hb; replace BK351 := bk BK351 hb; replace HB := bs hb; clear hb hbox hg; have hnb104 := NB372_350.out; have hnc104 := NB350_372.out; have hnb105 := NB372_351.out; have hnc105 := NB351_372.out; obtain ⟨zhu, zhv, zhw, zhx, zhy, zhz, zia, zib, zic, zid⟩ := bc5 BK372) | ((with_reducible refine gate_store (t := 34) (p := 11) rfl ?_); refine store_event (t := 34) (p := 11) (v := ?vo_w107) (w1 := (((((w103.setCell ⟨gb372, 0, none⟩ (.string ((rd_T34 l0_3 x65_3).f0))).setCell ⟨gb372, 1, none⟩ (.string ((rd_T34 l0_3 x65_3).f1))).setCell ⟨gb372, 2, none⟩ (.string ((rd_T34 l0_3 x65_3).f2))).setCell ⟨gb372, 3, none⟩ (.string ((rd_T34 l0_3 x65_3).f3))).setCell ⟨gb372, 4, none⟩ (.slice A371_4 ((rd_T34 l0_3 x65_3).f4).length c371_4))) ?hg ?ho ?hn ?hr ?_; (case ho => rfl); (case hg => rfl); (case hn => rfl); (case hr => first | (go_simp; done) | (go_simp; rfl)); intro w107 hw; have n0_ : Aside0 (w107.heap[gb350]? = some (.cells #[.slice A0_0 l0_0.length c0_0, .slice A0_1 l0_1.length c0_1, .slice A0_2 l0_2.length c0_2, .slice (some ad371) l0_3.length c0_3] 27 (0, 0))) := ⟨(by rw [hw]; exact (bf BK350))⟩; have n1_ : Aside0 (w107.heap[gb351]? = some (.cells #[.slice A0_0 l0_0.length c0_0, .slice A0_1 l0_1.length c0_1, .slice A0_2 l0_2.length c0_2, .slice (some ad371) l0_3.length c0_3] 58 (0, 0))) := ⟨(by rw [hw]; exact (bf BK351))⟩; have n2_ : Aside0 (w107.heap[gb372]? = some (.cells #[.string ((rd_T34 l0_3 x65_3).f0), .string ((rd_T34 l0_3 x65_3).f1), .string ((rd_T34 l0_3 x65_3).f2), .string ((rd_T34 l0_3 x65_3).f3), .slice A371_4 ((rd_T34 l0_3 x65_3).f4).length c371_4] 34 (0, 0))) := ⟨(by rw [hw]; exact (bp BK372))⟩; have n3_ : Aside0 (Below w.heap.size w w107) := ⟨(by rw [hw]; exact bq)⟩; clear hw; clear BK350; clear BK351; clear BK372; clear HB; have BK350 := n0_; have BK351 := n1_; have BK372 := n2_; have HB := n3_; clear n0_ n1_ n2_ n3_; have hnb108 := NB351_350.out; have hnc108 := NB350_351.out; obtain ⟨zie, zif, zig, zih, zii, zij, zik, zil⟩ := bc4 BK351; obtain ⟨zim, zin, zio, zip, ziq, zir, zis, zit, ziu, ziv⟩ := bc5 BK372) | ((with_reducible refine gate_callee (f := 17) rfl ?_); refine gL (some 73) Tryz.func17 #[.agg #[.slice A0_0 l0_0.length c0_0, .slice A0_1 l0_1.length c0_1, .slice A0_2 l0_2.length c0_2, .slice (some ad371) l0_3.length c0_3], .string ((rd_T34 l0_3 x65_3).f3)] ?_; (with_reducible refine (morphology_words_paradigm.calls k3 _ _ l0_0 _ _ l0_1 (fun k_ => k_ < w.heap.size) _ _ l0_2 _ _ l0_3 ((rd_T34 l0_3 x65_3).f3) t373 t374 t377 t380 _ (cq HR0_0) HC0_0.out (cq HR0_1) HC0_1.out ?side5 ?side6 ?side7 A101.out).mono ?_); (case side5 => exact Kd.V_mk HC0_2.out (Kd.F_below (Kd.C_F k38_heap HR0_2.out) bq)); (case side6 => repeat (first | exact (Kd.C_below HR0_3.out HB.out) | (with_reducible refine Kd.C_alloc ?_ _) | (with_reducible refine Kd.C_drewN ?_ _) | (with_reducible refine Kd.C_drew ?_))); (case side7 => exact HC0_3.out); rintro e w111 ⟨v375, v378, rfl, ho0, ho1, hb⟩; refine ⟨_, rfl, ?_⟩; have HO376 := am (Kd.V_lower (Kd.V_mono (ok' := fun k_ => k_ ≠ gb350 ∧ k_ ≠ gb351 ∧ k_ ≠ gb372) ho0 (fun k_ hk_ => ⟨Or.elim hk_ (fun hs_ => fun e_ => Nat.not_le.2 hs_ (by rw [e_]; exact GE350.out)) (fun hn_ => (Kd.freshB (g := gb350) (o := .cells #[.slice A0_0 l0_0.length c0_0, .slice A0_1 l0_1.length c0_1, .slice A0_2 l0_2.length c0_2, .slice (some ad371) l0_3.length c0_3] 27 (0, 0)) (bd BK350) k_ hn_)), Or.elim hk_ (fun hs_ => fun e_ => Nat.not_le.2 hs_ (by rw [e_]; exact GE351.out)) (fun hn_ => (Kd.freshB (g := gb351) (o := .cells #[.slice A0_0 l0_0.length c0_0, .slice A0_1 l0_1.length c0_1, .slice A0_2 l0_2.length c0_2, .slice (some ad371) l0_3.length c0_3] 58 (0, 0)) (bd BK351) k_ hn_)), Or.elim hk_ (fun hs_ => fun e_ => Nat.not_le.2 hs_ (by rw [e_]; exact GE372.out)) (fun hn_ => (Kd.freshB (g := gb372) (o := .cells #[.string ((rd_T34 l0_3 x65_3).f0), .string ((rd_T34 l0_3 x65_3).f1), .string ((rd_T34 l0_3 x65_3).f2), .string ((rd_T34 l0_3 x65_3).f3), .slice A371_4 ((rd_T34 l0_3 x65_3).f4).length c371_4] 34 (0, 0)) (bd BK372) k_ hn_))⟩)) (below_size bq)); have HO379 := am (Kd.V_lower (Kd.V_mono (ok' := fun k_ => k_ ≠ gb350 ∧ k_ ≠ gb351 ∧ k_ ≠ gb372) ho1 (fun k_ hk_ => ⟨Or.elim hk_ (fun hs_ => fun e_ => Nat.not_le.2 hs_ (by rw [e_]; exact GE350.out)) (fun hn_ => (Kd.freshB (g := gb350) (o := .cells #[.slice A0_0 l0_0.length c0_0, .slice A0_1 l0_1.length c0_1, .slice A0_2 l0_2.length c0_2, .slice (some ad371) l0_3.length c0_3] 27 (0, 0)) (bd BK350) k_ hn_)), Or.elim hk_ (fun hs_ => fun e_ => Nat.not_le.2 hs_ (by rw [e_]; exact GE351.out)) (fun hn_ => (Kd.freshB (g := gb351) (o := .cells #[.slice A0_0 l0_0.length c0_0, .slice A0_1 l0_1.length c0_1, .slice A0_2 l0_2.length c0_2, .slice (some ad371) l0_3.length c0_3] 58 (0, 0)) (bd BK351) k_ hn_)), Or.elim hk_ (fun hs_ => fun e_ => Nat.not_le.2 hs_ (by rw [e_]; exact GE372.out)) (fun hn_ => (Kd.freshB (g := gb372) (o := .cells #[.string ((rd_T34 l0_3 x65_3).f0), .string ((rd_T34 l0_3 x65_3).f1), .string ((rd_T34 l0_3 x65_3).f2), .string ((rd_T34 l0_3 x65_3).f3), .slice A371_4 ((rd_T34 l0_3 x65_3).f4).length c371_4] 34 (0, 0)) (bd BK372) k_ hn_))⟩)) (below_size bq)); replace BK350 := bk BK350 hb; replace BK351 := bk BK351 hb; replace BK372 := bk BK372 hb; replace HB := bs hb; (try clear hb); (try clear ho0); (try clear ho1)) | ((with_reducible refine gate_dst (N := 12) rfl ?_); refine bx 12 #[.string (⟨#[]⟩ : ByteArray), .slice none 0 0, .slice none 0 0] 38 ?_; intro gb381 hg w112 hbox hb; have BK381 := am hbox; have GE381 := sz hg; have NB350_381 := nl hg BK350; have NB381_350 := ng hg BK350; have NB351_381 := nl hg BK351; have NB381_351 := ng hg BK351; have NB372_381 := nl hg BK372; have NB381_372 := ng hg BK372; replace HO376 := am (Kd.V_below (Kd.V_elderB (rV HO376) gb381 (Nat.le_of_eq hg.symm)) hb); replace HO379 := am (Kd.V_below (Kd.V_elderB (rV HO379) gb381 (Nat.le_of_eq hg.symm)) hb); replace BK350 := bk BK350 hb; replace BK351 := bk BK351 hb; replace BK372 := bk BK372 hb; replace HB := bs hb; clear hb hbox hg; have hnb113 := NB381_350.out; have hnc113 := NB350_381.out; have hnb114 := NB381_351.out; have hnc114 := NB351_381.out; have hnb115 := NB381_372.out; have hnc115 := NB372_381.out; obtain ⟨ziw, zix, ziy, ziz, zja, zjb⟩ := bc3 BK381; obtain ⟨Ao117, co117, eo117⟩ := Kd.V_slice HO376.out; subst eo117; obtain ⟨Ao118, co118, eo118⟩ := Kd.V_slice HO379.out; subst eo118; obtain ⟨zjc, zjd, zje, zjf, zjg, zjh, zji, zjj, zjk, zjl⟩ := bc5 BK372))
            go_roundg k3
            case measure => have := HK1.out; have := HK2.out; have := HK3.out; omega
            case rel => exact ⟨(wrap64 (x65_3 + 1)), rq, H', ⟨by have := HK1.out; have := HK2.out; have := HK3.out; omega⟩, ⟨bf BK350⟩, ⟨bf BK351⟩, ⟨bq⟩⟩
           rw [if_neg c102] at H
           have c102b0 : (((rd_T34 l0_3 x65_3).f3).toList == ([] : List UInt8)) = false := beq_eq_false_iff_ne.mpr c102
           have c102b1 : (((rd_T34 l0_3 x65_3).f3).toList != ([] : List UInt8)) = true := bne_iff_ne.mpr c102
           have H' := am H
           clear H
           have p371 : 0 ≤ (x65_3 : Int) := oq
           have q371 : x65_3 < (l0_3.length : Int) := oq
           obtain ⟨ad371, A371_4, c371_4, e371, hx371_0, hx371_1, hx371_2, hx371_3, hx371_4, hl371_4, hi371_4⟩ := at_T34 HR0_3.out x65_3 p371 q371
           cases e371
           replace hx371_0 := cw hx371_0
           replace hx371_1 := cw hx371_1
           replace hx371_2 := cw hx371_2
           replace hx371_3 := cw hx371_3
           replace hx371_4 := cw hx371_4
           have HR371_4 := am hi371_4
           have HC371_4 := am hl371_4
           clear hi371_4 hl371_4
           replace p371 := eq_true p371
           replace q371 := eq_true q371
           go_wp2_with (first | ((with_reducible refine gate_dst (N := 11) rfl ?_); refine bx 11 #[.string (⟨#[]⟩ : ByteArray), .string (⟨#[]⟩ : ByteArray), .string (⟨#[]⟩ : ByteArray), .string (⟨#[]⟩ : ByteArray), .slice none 0 0] 34 ?_; intro gb372 hg w120 hbox hb; have BK372 := am hbox; have GE372 := sz hg; have NB350_372 := nl hg BK350; have NB372_350 := ng hg BK350; have NB351_372 := nl hg BK351; have NB372_351 := ng hg BK351; replace BK350 := bk BK350 hb; replace BK351 := bk BK351 hb; replace HB := bs hb; clear hb hbox hg; have hnb121 := NB372_350.out; have hnc121 := NB350_372.out; have hnb122 := NB372_351.out; have hnc122 := NB351_372.out; obtain ⟨zjm, zjn, zjo, zjp, zjq, zjr, zjs, zjt, zju, zjv⟩ := bc5 BK372) | ((with_reducible refine gate_store (t := 34) (p := 11) rfl ?_); refine store_event (t := 34) (p := 11) (v := ?vo_w124) (w1 := (((((w120.setCell ⟨gb372, 0, none⟩ (.string ((rd_T34 l0_3 x65_3).f0))).setCell ⟨gb372, 1, none⟩ (.string ((rd_T34 l0_3 x65_3).f1))).setCell ⟨gb372, 2, none⟩ (.string ((rd_T34 l0_3 x65_3).f2))).setCell ⟨gb372, 3, none⟩ (.string ((rd_T34 l0_3 x65_3).f3))).setCell ⟨gb372, 4, none⟩ (.slice A371_4 ((rd_T34 l0_3 x65_3).f4).length c371_4))) ?hg ?ho ?hn ?hr ?_; (case ho => rfl); (case hg => rfl); (case hn => rfl); (case hr => first | (go_simp; done) | (go_simp; rfl)); intro w124 hw; have n0_ : Aside0 (w124.heap[gb350]? = some (.cells #[.slice A0_0 l0_0.length c0_0, .slice A0_1 l0_1.length c0_1, .slice A0_2 l0_2.length c0_2, .slice (some ad371) l0_3.length c0_3] 27 (0, 0))) := ⟨(by rw [hw]; exact (bf BK350))⟩; have n1_ : Aside0 (w124.heap[gb351]? = some (.cells #[.slice A0_0 l0_0.length c0_0, .slice A0_1 l0_1.length c0_1, .slice A0_2 l0_2.length c0_2, .slice (some ad371) l0_3.length c0_3] 58 (0, 0))) := ⟨(by rw [hw]; exact (bf BK351))⟩; have n2_ : Aside0 (w124.heap[gb372]? = some (.cells #[.string ((rd_T34 l0_3 x65_3).f0), .string ((rd_T34 l0_3 x65_3).f1), .string ((rd_T34 l0_3 x65_3).f2), .string ((rd_T34 l0_3 x65_3).f3), .slice A371_4 ((rd_T34 l0_3 x65_3).f4).length c371_4] 34 (0, 0))) := ⟨(by rw [hw]; exact (bp BK372))⟩; have n3_ : Aside0 (Below w.heap.size w w124) := ⟨(by rw [hw]; exact bq)⟩; clear hw; clear BK350; clear BK351; clear BK372; clear HB; have BK350 := n0_; have BK351 := n1_; have BK372 := n2_; have HB := n3_; clear n0_ n1_ n2_ n3_; have hnb125 := NB351_350.out; have hnc125 := NB350_351.out; obtain ⟨zjw, zjx, zjy, zjz, zka, zkb, zkc, zkd⟩ := bc4 BK351; obtain ⟨zke, zkf, zkg, zkh, zki, zkj, zkk, zkl, zkm, zkn⟩ := bc5 BK372) | ((with_reducible refine gate_callee (f := 17) rfl ?_); refine gL (some 73) Tryz.func17 #[.agg #[.slice A0_0 l0_0.length c0_0, .slice A0_1 l0_1.length c0_1, .slice A0_2 l0_2.length c0_2, .slice (some ad371) l0_3.length c0_3], .string ((rd_T34 l0_3 x65_3).f3)] ?_; (with_reducible refine (morphology_words_paradigm.calls k3 _ _ l0_0 _ _ l0_1 (fun k_ => k_ < w.heap.size) _ _ l0_2 _ _ l0_3 ((rd_T34 l0_3 x65_3).f3) t373 t374 t377 t380 _ (cq HR0_0) HC0_0.out (cq HR0_1) HC0_1.out ?side5 ?side6 ?side7 A101.out).mono ?_); (case side5 => exact Kd.V_mk HC0_2.out (Kd.F_below (Kd.C_F k38_heap HR0_2.out) bq)); (case side6 => repeat (first | exact (Kd.C_below HR0_3.out HB.out) | (with_reducible refine Kd.C_alloc ?_ _) | (with_reducible refine Kd.C_drewN ?_ _) | (with_reducible refine Kd.C_drew ?_))); (case side7 => exact HC0_3.out); rintro e w128 ⟨v375, v378, rfl, ho0, ho1, hb⟩; refine ⟨_, rfl, ?_⟩; have HO376 := am (Kd.V_lower (Kd.V_mono (ok' := fun k_ => k_ ≠ gb350 ∧ k_ ≠ gb351 ∧ k_ ≠ gb372) ho0 (fun k_ hk_ => ⟨Or.elim hk_ (fun hs_ => fun e_ => Nat.not_le.2 hs_ (by rw [e_]; exact GE350.out)) (fun hn_ => (Kd.freshB (g := gb350) (o := .cells #[.slice A0_0 l0_0.length c0_0, .slice A0_1 l0_1.length c0_1, .slice A0_2 l0_2.length c0_2, .slice (some ad371) l0_3.length c0_3] 27 (0, 0)) (bd BK350) k_ hn_)), Or.elim hk_ (fun hs_ => fun e_ => Nat.not_le.2 hs_ (by rw [e_]; exact GE351.out)) (fun hn_ => (Kd.freshB (g := gb351) (o := .cells #[.slice A0_0 l0_0.length c0_0, .slice A0_1 l0_1.length c0_1, .slice A0_2 l0_2.length c0_2, .slice (some ad371) l0_3.length c0_3] 58 (0, 0)) (bd BK351) k_ hn_)), Or.elim hk_ (fun hs_ => fun e_ => Nat.not_le.2 hs_ (by rw [e_]; exact GE372.out)) (fun hn_ => (Kd.freshB (g := gb372) (o := .cells #[.string ((rd_T34 l0_3 x65_3).f0), .string ((rd_T34 l0_3 x65_3).f1), .string ((rd_T34 l0_3 x65_3).f2), .string ((rd_T34 l0_3 x65_3).f3), .slice A371_4 ((rd_T34 l0_3 x65_3).f4).length c371_4] 34 (0, 0)) (bd BK372) k_ hn_))⟩)) (below_size bq)); have HO379 := am (Kd.V_lower (Kd.V_mono (ok' := fun k_ => k_ ≠ gb350 ∧ k_ ≠ gb351 ∧ k_ ≠ gb372) ho1 (fun k_ hk_ => ⟨Or.elim hk_ (fun hs_ => fun e_ => Nat.not_le.2 hs_ (by rw [e_]; exact GE350.out)) (fun hn_ => (Kd.freshB (g := gb350) (o := .cells #[.slice A0_0 l0_0.length c0_0, .slice A0_1 l0_1.length c0_1, .slice A0_2 l0_2.length c0_2, .slice (some ad371) l0_3.length c0_3] 27 (0, 0)) (bd BK350) k_ hn_)), Or.elim hk_ (fun hs_ => fun e_ => Nat.not_le.2 hs_ (by rw [e_]; exact GE351.out)) (fun hn_ => (Kd.freshB (g := gb351) (o := .cells #[.slice A0_0 l0_0.length c0_0, .slice A0_1 l0_1.length c0_1, .slice A0_2 l0_2.length c0_2, .slice (some ad371) l0_3.length c0_3] 58 (0, 0)) (bd BK351) k_ hn_)), Or.elim hk_ (fun hs_ => fun e_ => Nat.not_le.2 hs_ (by rw [e_]; exact GE372.out)) (fun hn_ => (Kd.freshB (g := gb372) (o := .cells #[.string ((rd_T34 l0_3 x65_3).f0), .string ((rd_T34 l0_3 x65_3).f1), .string ((rd_T34 l0_3 x65_3).f2), .string ((rd_T34 l0_3 x65_3).f3), .slice A371_4 ((rd_T34 l0_3 x65_3).f4).length c371_4] 34 (0, 0)) (bd BK372) k_ hn_))⟩)) (below_size bq)); replace BK350 := bk BK350 hb; replace BK351 := bk BK351 hb; replace BK372 := bk BK372 hb; replace HB := bs hb; (try clear hb); (try clear ho0); (try clear ho1)) | ((with_reducible refine gate_dst (N := 12) rfl ?_); refine bx 12 #[.string (⟨#[]⟩ : ByteArray), .slice none 0 0, .slice none 0 0] 38 ?_; intro gb381 hg w129 hbox hb; have BK381 := am hbox; have GE381 := sz hg; have NB350_381 := nl hg BK350; have NB381_350 := ng hg BK350; have NB351_381 := nl hg BK351; have NB381_351 := ng hg BK351; have NB372_381 := nl hg BK372; have NB381_372 := ng hg BK372; replace HO376 := am (Kd.V_below (Kd.V_elderB (rV HO376) gb381 (Nat.le_of_eq hg.symm)) hb); replace HO379 := am (Kd.V_below (Kd.V_elderB (rV HO379) gb381 (Nat.le_of_eq hg.symm)) hb); replace BK350 := bk BK350 hb; replace BK351 := bk BK351 hb; replace BK372 := bk BK372 hb; replace HB := bs hb; clear hb hbox hg; have hnb130 := NB381_350.out; have hnc130 := NB350_381.out; have hnb131 := NB381_351.out; have hnc131 := NB351_381.out; have hnb132 := NB381_372.out; have hnc132 := NB372_381.out; obtain ⟨zko, zkp, zkq, zkr, zks, zkt⟩ := bc3 BK381; obtain ⟨Ao134, co134, eo134⟩ := Kd.V_slice HO376.out; subst eo134; obtain ⟨Ao135, co135, eo135⟩ := Kd.V_slice HO379.out; subst eo135; obtain ⟨zku, zkv, zkw, zkx, zky, zkz, zla, zlb, zlc, zld⟩ := bc5 BK372))
           go_loopg [82] k3 (fun kq v82 w' => ∃ (x82_4 : Int), v82 = .int .i64 x82_4 ∧ Aside0 (morphology_Check.l3 kq l0_3 (l0_3.length : Int) x65_3 t374 (t374.length : Int) x82_4 l0_0 l0_1 l0_2 l0_3 ((rd_T34 l0_3 x65_3).f0) ((rd_T34 l0_3 x65_3).f1) ((rd_T34 l0_3 x65_3).f2) ((rd_T34 l0_3 x65_3).f3) ((rd_T34 l0_3 x65_3).f4) = some r) ∧ Aside0 (kq ≤ k3) ∧ Aside0 (Kd.V k55 55 w' w.heap.size (fun k_ => k_ ≠ gb350 ∧ k_ ≠ gb351 ∧ k_ ≠ gb372 ∧ k_ ≠ gb381) (.slice Ao134 t374.length co134) t374) ∧ Aside0 (Kd.V k55 55 w' w.heap.size (fun k_ => k_ ≠ gb350 ∧ k_ ≠ gb351 ∧ k_ ≠ gb372 ∧ k_ ≠ gb381) (.slice Ao134 t374.length co134) t374) ∧ Aside0 (Kd.V (Kd.slice 79 k79) 80 w' w.heap.size (fun k_ => k_ ≠ gb350 ∧ k_ ≠ gb351 ∧ k_ ≠ gb372 ∧ k_ ≠ gb381) (.slice Ao135 t377.length co135) t377) ∧ Aside0 (w'.heap[gb350]? = some (.cells #[(.slice A0_0 l0_0.length c0_0), (.slice A0_1 l0_1.length c0_1), (.slice A0_2 l0_2.length c0_2), (.slice (some ad371) l0_3.length c0_3)] 27 (0, 0))) ∧ Aside0 (w'.heap[gb351]? = some (.cells #[(.slice A0_0 l0_0.length c0_0), (.slice A0_1 l0_1.length c0_1), (.slice A0_2 l0_2.length c0_2), (.slice (some ad371) l0_3.length c0_3)] 58 (0, 0))) ∧ Aside0 (w'.heap[gb372]? = some (.cells #[.string ((rd_T34 l0_3 x65_3).f0), .string ((rd_T34 l0_3 x65_3).f1), .string ((rd_T34 l0_3 x65_3).f2), .string ((rd_T34 l0_3 x65_3).f3), (.slice A371_4 ((rd_T34 l0_3 x65_3).f4).length c371_4)] 34 (0, 0))) ∧ Aside0 (w'.heap[gb381]? = some (.cells #[.string t373, (.slice Ao134 t374.length co134), (.slice Ao135 t377.length co135)] 38 (0, 0))) ∧ Aside0 (Below w.heap.size w w'))
           case atStart => exact ⟨(0), rq, H', ⟨Nat.le_refl _⟩, ⟨rW (Kd.V_mono (Kd.V_far (p := ⟨gb381, 2, none⟩) (Kd.V_far (p := ⟨gb381, 1, none⟩) (Kd.V_far (p := ⟨gb381, 0, none⟩) (Kd.V_mono HO376.out (fun k_ hk => (⟨hk, hk.2⟩ : _ ∧ k_ ≠ gb381))) (fun _ hk => hk.2) (.string t373)) (fun _ hk => hk.2) (.slice Ao134 t374.length co134)) (fun _ hk => hk.2) (.slice Ao135 t377.length co135)) (fun _ hk => ⟨hk.1.1.1, ⟨hk.1.1.2.1, ⟨hk.1.1.2.2, hk.1.2⟩⟩⟩))⟩, ⟨rW (Kd.V_mono (Kd.V_far (p := ⟨gb381, 2, none⟩) (Kd.V_far (p := ⟨gb381, 1, none⟩) (Kd.V_far (p := ⟨gb381, 0, none⟩) (Kd.V_mono HO376.out (fun k_ hk => (⟨hk, hk.2⟩ : _ ∧ k_ ≠ gb381))) (fun _ hk => hk.2) (.string t373)) (fun _ hk => hk.2) (.slice Ao134 t374.length co134)) (fun _ hk => hk.2) (.slice Ao135 t377.length co135)) (fun _ hk => ⟨hk.1.1.1, ⟨hk.1.1.2.1, ⟨hk.1.1.2.2, hk.1.2⟩⟩⟩))⟩, ⟨rW (Kd.V_mono (Kd.V_far (p := ⟨gb381, 2, none⟩) (Kd.V_far (p := ⟨gb381, 1, none⟩) (Kd.V_far (p := ⟨gb381, 0, none⟩) (Kd.V_mono HO379.out (fun k_ hk => (⟨hk, hk.2⟩ : _ ∧ k_ ≠ gb381))) (fun _ hk => hk.2) (.string t373)) (fun _ hk => hk.2) (.slice Ao134 t374.length co134)) (fun _ hk => hk.2) (.slice Ao135 t377.length co135)) (fun _ hk => ⟨hk.1.1.1, ⟨hk.1.1.2.1, ⟨hk.1.1.2.2, hk.1.2⟩⟩⟩))⟩, ⟨bf BK350⟩, ⟨bf BK351⟩, ⟨bf BK372⟩, ⟨bp BK381⟩, ⟨bq⟩⟩
           case round =>
            clear H'
            clear c98b0 c99b0 c100b0 c102 c102b0 c102b1 zjm zjn zjo zjp zjq zjw zjx zjy zjz zke zkf zkg zkh zki zko zkp zkq zku zkv zkw zkx zky zjr zjs zjt zju zjv zka zkb zkc zkd zkj zkk zkl zkm zkn zkr zks zkt zkz zla zlb zlc zld hx371_0 hx371_1 hx371_2 hx371_3 hx371_4 p371 q371
            obtain ⟨x82_4, rfl, HA, HK4, HO_80, HO_382001, HO_382002, BK350, BK351, BK372, BK381, HB⟩ := hrel
            cases gk with
            | zero => exact absurd HA.out (by simp [morphology_Check.l3])
            | succ k4 =>
             have H := HA.out
             clear HA
             simp only [morphology_Check.l3] at H
             by_cases c137 : x82_4 < (t374.length : Int)
             ·rw [if_pos c137] at H
              have c137b0 : decide (x82_4 < (t374.length : Int)) = true := decide_eq_true c137
              clear c137
              by_cases c138 : 0 ≤ x82_4
              ·rw [if_pos c138] at H
               have c138b0 : decide (0 ≤ x82_4) = true := decide_eq_true c138
               clear c138
               by_cases c139 : x82_4 < (t374.length : Int)
               ·rw [if_pos c139] at H
                have c139b0 : decide (x82_4 < (t374.length : Int)) = true := decide_eq_true c139
                clear c139
                replace H := Option.bind_eq_some_iff.mp H
                obtain ⟨t384, A1400, H⟩ := H
                (try dsimp only at H)
                have A140 := am A1400
                clear A1400
                by_cases c141 : t384 = true
                ·subst c141
                 rw [if_pos rfl] at H
                 obtain rfl := Option.some.inj H
                 have p382 : 0 ≤ (x82_4 : Int) := oq
                 have q382 : x82_4 < (t374.length : Int) := oq
                 obtain ⟨ad382, A382_1, c382_1, e382, hx382_0, hx382_1, hl382_1, hi382_1⟩ := at_T55 (Kd.V_reads' HO_80.out).2.2 x82_4 p382 q382
                 cases e382
                 obtain ⟨ce382, hce382, hMe382, hcc382⟩ := Kd.V_get HO_80.out z55 x82_4 p382 (by first | exact q382 | exact oq | (have e_ := (Kd.V_reads' HO_80.out).1; omega))
                 obtain ⟨ua382_1, uc382_1, rfl, ul382_1, ge382_1⟩ := k55_openF hMe382
                 have hv382_1 := hcc382 1 _ rfl
                 rw [add_field _ _ 1 (by omega)] at hv382_1
                 replace hv382_1 := Option.some.inj (hv382_1.symm.trans hx382_1)
                 injection hv382_1 with hva_ hvn_ hvc_
                 rw [hva_] at ge382_1
                 rw [hvc_] at ul382_1
                 have HL382_1 := am (show Kd.V Kd.string 9 _ w.heap.size _ _ ((rd_T55 t374 x82_4).f1) from Kd.V_mk ul382_1 ge382_1)
                 clear hva_ hvn_ hvc_ ge382_1 ul382_1
                 clear hcc382 hce382
                 have HR382_1 := am hi382_1
                 have HC382_1 := am hl382_1
                 clear hi382_1 hl382_1
                 replace p382 := eq_true p382
                 replace q382 := eq_true q382
                 go_wp2_with (first | ((with_reducible refine gate_dst (N := 15) rfl ?_); refine bx 15 #[.string (⟨#[]⟩ : ByteArray), .slice none 0 0] 55 ?_; intro gb383 hg w142 hbox hb; have BK383 := am hbox; have GE383 := sz hg; have NB350_383 := nl hg BK350; have NB383_350 := ng hg BK350; have NB351_383 := nl hg BK351; have NB383_351 := ng hg BK351; have NB372_383 := nl hg BK372; have NB383_372 := ng hg BK372; have NB381_383 := nl hg BK381; have NB383_381 := ng hg BK381; replace HO_80 := am (Kd.V_below (Kd.V_elderB (rV HO_80) gb383 (Nat.le_of_eq hg.symm)) hb); replace HO_382001 := am (Kd.V_below (Kd.V_elderB (rV HO_382001) gb383 (Nat.le_of_eq hg.symm)) hb); replace HO_382002 := am (Kd.V_below (Kd.V_elderB (rV HO_382002) gb383 (Nat.le_of_eq hg.symm)) hb); replace HL382_1 := am (Kd.V_below (Kd.V_elderB (rV HL382_1) gb383 (Nat.le_of_eq hg.symm)) hb); replace BK350 := bk BK350 hb; replace BK351 := bk BK351 hb; replace BK372 := bk BK372 hb; replace BK381 := bk BK381 hb; replace HR382_1 := am (Kd.C_below (by repeat (first | (with_reducible exact HR382_1.out) | (with_reducible refine Kd.C_alloc ?_ _) | (with_reducible refine Kd.C_drewN ?_ _) | (with_reducible refine Kd.C_drew ?_) | exact HR382_1.out)) hb); replace HB := bs hb; clear hb hbox hg; have hnb143 := NB383_350.out; have hnc143 := NB350_383.out; have hnb144 := NB383_351.out; have hnc144 := NB351_383.out; have hnb145 := NB383_372.out; have hnc145 := NB372_383.out; have hnb146 := NB383_381.out; have hnc146 := NB381_383.out; obtain ⟨zle, zlf, zlg, zlh⟩ := bc2 BK383; have hnb148 := NB372_350.out; have hnc148 := NB350_372.out; have hnb149 := NB372_351.out; have hnc149 := NB351_372.out; have hnb150 := NB372_381.out; have hnc150 := NB381_372.out; obtain ⟨zli, zlj, zlk, zll, zlm, zln, zlo, zlp, zlq, zlr⟩ := bc5 BK372) | ((with_reducible refine gate_callee (f := 18) rfl ?_); refine gL (some 89) Tryz.func18 #[.slice A371_4 ((rd_T34 l0_3 x65_3).f4).length c371_4, .func (.func 19) #[] #[.pointer (some ⟨gb383, 0, none⟩)]] ?_; (with_reducible refine (api_Feature_18.calls _ _ ((rd_T34 l0_3 x65_3).f4) ((rd_T55 t374 x82_4).f0) true gb383 _ ?side1 ?side2 ?clo_ A140.out).mono ?_); (case clo_ => refine Eq.trans (blk_cell (g := gb383) (cs := #[.string ((rd_T55 t374 x82_4).f0), .slice A382_1 ((rd_T55 t374 x82_4).f1).length c382_1]) (t := 55) ?_ 0) rfl; (with_reducible repeat (first | refine blk_drewN ?_ _ | refine blk_drew ?_ | refine blk_alloc ?_ _)); refine blk_put (cs := #[.string ((rd_T55 t374 x82_4).f0), .slice none 0 0]) ?_ 1 _ rfl; (with_reducible repeat (first | refine blk_drewN ?_ _ | refine blk_drew ?_ | refine blk_alloc ?_ _)); refine blk_put (cs := #[.string (⟨#[]⟩ : ByteArray), .slice none 0 0]) ?_ 0 _ rfl; (with_reducible repeat (first | refine blk_drewN ?_ _ | refine blk_drew ?_ | refine blk_alloc ?_ _)); exact BK383.out); (case side1 => exact Kd.C_below HR371_4.out bq); (case side2 => exact HC371_4.out); rintro e w152 ⟨rfl, hb⟩; refine ⟨_, rfl, ?_⟩; have n0_ := am (Kd.V_below (rW ((Kd.V_mono (Kd.V_far (p := ⟨gb383, 1, none⟩) (Kd.V_far (p := ⟨gb383, 0, none⟩) (Kd.V_mono HO_80.out (fun k_ hk => (⟨hk, hk.2⟩ : _ ∧ k_ ≠ gb383))) (fun _ hk => hk.2) (.string ((rd_T55 t374 x82_4).f0))) (fun _ hk => hk.2) (.slice A382_1 ((rd_T55 t374 x82_4).f1).length c382_1)) (fun _ h_ => h_.1)))) hb); have n1_ := am (Kd.V_below (rW ((Kd.V_mono (Kd.V_far (p := ⟨gb383, 1, none⟩) (Kd.V_far (p := ⟨gb383, 0, none⟩) (Kd.V_mono HO_382001.out (fun k_ hk => (⟨hk, hk.2⟩ : _ ∧ k_ ≠ gb383))) (fun _ hk => hk.2) (.string ((rd_T55 t374 x82_4).f0))) (fun _ hk => hk.2) (.slice A382_1 ((rd_T55 t374 x82_4).f1).length c382_1)) (fun _ h_ => h_.1)))) hb); have n2_ := am (Kd.V_below (rW ((Kd.V_mono (Kd.V_far (p := ⟨gb383, 1, none⟩) (Kd.V_far (p := ⟨gb383, 0, none⟩) (Kd.V_mono HO_382002.out (fun k_ hk => (⟨hk, hk.2⟩ : _ ∧ k_ ≠ gb383))) (fun _ hk => hk.2) (.string ((rd_T55 t374 x82_4).f0))) (fun _ hk => hk.2) (.slice A382_1 ((rd_T55 t374 x82_4).f1).length c382_1)) (fun _ h_ => h_.1)))) hb); have n3_ := am (Kd.V_below (rW ((Kd.V_mono (Kd.V_far (p := ⟨gb383, 1, none⟩) (Kd.V_far (p := ⟨gb383, 0, none⟩) (Kd.V_mono HL382_1.out (fun k_ hk => (⟨hk, hk.2⟩ : _ ∧ k_ ≠ gb383))) (fun _ hk => hk.2) (.string ((rd_T55 t374 x82_4).f0))) (fun _ hk => hk.2) (.slice A382_1 ((rd_T55 t374 x82_4).f1).length c382_1)) (fun _ h_ => h_.1)))) hb); have n4_ := am (blk_below (g := gb350) (o := .cells #[.slice A0_0 l0_0.length c0_0, .slice A0_1 l0_1.length c0_1, .slice A0_2 l0_2.length c0_2, .slice (some ad371) l0_3.length c0_3] 27 (0, 0)) (bf BK350) hb); have n5_ := am (blk_below (g := gb351) (o := .cells #[.slice A0_0 l0_0.length c0_0, .slice A0_1 l0_1.length c0_1, .slice A0_2 l0_2.length c0_2, .slice (some ad371) l0_3.length c0_3] 58 (0, 0)) (bf BK351) hb); have n6_ := am (blk_below (g := gb372) (o := .cells #[.string ((rd_T34 l0_3 x65_3).f0), .string ((rd_T34 l0_3 x65_3).f1), .string ((rd_T34 l0_3 x65_3).f2), .string ((rd_T34 l0_3 x65_3).f3), .slice A371_4 ((rd_T34 l0_3 x65_3).f4).length c371_4] 34 (0, 0)) (bf BK372) hb); have n7_ := am (blk_below (g := gb381) (o := .cells #[.string t373, .slice (some ad382) t374.length co134, .slice Ao135 t377.length co135] 38 (0, 0)) (bf BK381) hb); have n8_ := am (Kd.C_below ((Kd.V_reads' (rW ((Kd.V_mono (Kd.V_far (p := ⟨gb383, 1, none⟩) (Kd.V_far (p := ⟨gb383, 0, none⟩) (Kd.V_mono HL382_1.out (fun k_ hk => (⟨hk, hk.2⟩ : _ ∧ k_ ≠ gb383))) (fun _ hk => hk.2) (.string ((rd_T55 t374 x82_4).f0))) (fun _ hk => hk.2) (.slice A382_1 ((rd_T55 t374 x82_4).f1).length c382_1)) (fun _ h_ => h_.1))))).2.2) hb); have n9_ := am (blk_below (g := gb383) (o := .cells #[.string ((rd_T55 t374 x82_4).f0), .slice A382_1 ((rd_T55 t374 x82_4).f1).length c382_1] 55 (0, 0)) (bp BK383) hb); have n10_ := bs hb; clear HO_80; clear HO_382001; clear HO_382002; clear HL382_1; clear BK350; clear BK351; clear BK372; clear BK381; clear HR382_1; clear BK383; clear HB; have HO_80 := n0_; have HO_382001 := n1_; have HO_382002 := n2_; have HL382_1 := n3_; have BK350 := n4_; have BK351 := n5_; have BK372 := n6_; have BK381 := n7_; have HR382_1 := n8_; have BK383 := n9_; have HB := n10_; clear n0_ n1_ n2_ n3_ n4_ n5_ n6_ n7_ n8_ n9_ n10_; (try clear hb); (try clear hk)))
                 go_ret
                 exact ⟨eq', bq⟩
                replace c141 := Bool.eq_false_iff.mpr c141
                subst c141
                rw [if_neg nf] at H
                have H' := am H
                clear H
                have p382 : 0 ≤ (x82_4 : Int) := oq
                have q382 : x82_4 < (t374.length : Int) := oq
                obtain ⟨ad382, A382_1, c382_1, e382, hx382_0, hx382_1, hl382_1, hi382_1⟩ := at_T55 (Kd.V_reads' HO_80.out).2.2 x82_4 p382 q382
                cases e382
                obtain ⟨ce382, hce382, hMe382, hcc382⟩ := Kd.V_get HO_80.out z55 x82_4 p382 (by first | exact q382 | exact oq | (have e_ := (Kd.V_reads' HO_80.out).1; omega))
                obtain ⟨ua382_1, uc382_1, rfl, ul382_1, ge382_1⟩ := k55_openF hMe382
                have hv382_1 := hcc382 1 _ rfl
                rw [add_field _ _ 1 (by omega)] at hv382_1
                replace hv382_1 := Option.some.inj (hv382_1.symm.trans hx382_1)
                injection hv382_1 with hva_ hvn_ hvc_
                rw [hva_] at ge382_1
                rw [hvc_] at ul382_1
                have HL382_1 := am (show Kd.V Kd.string 9 _ w.heap.size _ _ ((rd_T55 t374 x82_4).f1) from Kd.V_mk ul382_1 ge382_1)
                clear hva_ hvn_ hvc_ ge382_1 ul382_1
                clear hcc382 hce382
                have HR382_1 := am hi382_1
                have HC382_1 := am hl382_1
                clear hi382_1 hl382_1
                replace p382 := eq_true p382
                replace q382 := eq_true q382
                go_wp2_with (first | ((with_reducible refine gate_dst (N := 15) rfl ?_); refine bx 15 #[.string (⟨#[]⟩ : ByteArray), .slice none 0 0] 55 ?_; intro gb383 hg w153 hbox hb; have BK383 := am hbox; have GE383 := sz hg; have NB350_383 := nl hg BK350; have NB383_350 := ng hg BK350; have NB351_383 := nl hg BK351; have NB383_351 := ng hg BK351; have NB372_383 := nl hg BK372; have NB383_372 := ng hg BK372; have NB381_383 := nl hg BK381; have NB383_381 := ng hg BK381; replace HO_80 := am (Kd.V_below (Kd.V_elderB (rV HO_80) gb383 (Nat.le_of_eq hg.symm)) hb); replace HO_382001 := am (Kd.V_below (Kd.V_elderB (rV HO_382001) gb383 (Nat.le_of_eq hg.symm)) hb); replace HO_382002 := am (Kd.V_below (Kd.V_elderB (rV HO_382002) gb383 (Nat.le_of_eq hg.symm)) hb); replace HL382_1 := am (Kd.V_below (Kd.V_elderB (rV HL382_1) gb383 (Nat.le_of_eq hg.symm)) hb); replace BK350 := bk BK350 hb; replace BK351 := bk BK351 hb; replace BK372 := bk BK372 hb; replace BK381 := bk BK381 hb; replace HR382_1 := am (Kd.C_below (by repeat (first | (with_reducible exact HR382_1.out) | (with_reducible refine Kd.C_alloc ?_ _) | (with_reducible refine Kd.C_drewN ?_ _) | (with_reducible refine Kd.C_drew ?_) | exact HR382_1.out)) hb); replace HB := bs hb; clear hb hbox hg; have hnb154 := NB383_350.out; have hnc154 := NB350_383.out; have hnb155 := NB383_351.out; have hnc155 := NB351_383.out; have hnb156 := NB383_372.out; have hnc156 := NB372_383.out; have hnb157 := NB383_381.out; have hnc157 := NB381_383.out; obtain ⟨zls, zlt, zlu, zlv⟩ := bc2 BK383; have hnb159 := NB372_350.out; have hnc159 := NB350_372.out; have hnb160 := NB372_351.out; have hnc160 := NB351_372.out; have hnb161 := NB372_381.out; have hnc161 := NB381_372.out; obtain ⟨zlw, zlx, zly, zlz, zma, zmb, zmc, zmd, zme, zmf⟩ := bc5 BK372) | ((with_reducible refine gate_callee (f := 18) rfl ?_); refine gL (some 89) Tryz.func18 #[.slice A371_4 ((rd_T34 l0_3 x65_3).f4).length c371_4, .func (.func 19) #[] #[.pointer (some ⟨gb383, 0, none⟩)]] ?_; (with_reducible refine (api_Feature_18.calls _ _ ((rd_T34 l0_3 x65_3).f4) ((rd_T55 t374 x82_4).f0) false gb383 _ ?side1 ?side2 ?clo_ A140.out).mono ?_); (case clo_ => refine Eq.trans (blk_cell (g := gb383) (cs := #[.string ((rd_T55 t374 x82_4).f0), .slice A382_1 ((rd_T55 t374 x82_4).f1).length c382_1]) (t := 55) ?_ 0) rfl; (with_reducible repeat (first | refine blk_drewN ?_ _ | refine blk_drew ?_ | refine blk_alloc ?_ _)); refine blk_put (cs := #[.string ((rd_T55 t374 x82_4).f0), .slice none 0 0]) ?_ 1 _ rfl; (with_reducible repeat (first | refine blk_drewN ?_ _ | refine blk_drew ?_ | refine blk_alloc ?_ _)); refine blk_put (cs := #[.string (⟨#[]⟩ : ByteArray), .slice none 0 0]) ?_ 0 _ rfl; (with_reducible repeat (first | refine blk_drewN ?_ _ | refine blk_drew ?_ | refine blk_alloc ?_ _)); exact BK383.out); (case side1 => exact Kd.C_below HR371_4.out bq); (case side2 => exact HC371_4.out); rintro e w163 ⟨rfl, hb⟩; refine ⟨_, rfl, ?_⟩; have n0_ := am (Kd.V_below (rW ((Kd.V_mono (Kd.V_far (p := ⟨gb383, 1, none⟩) (Kd.V_far (p := ⟨gb383, 0, none⟩) (Kd.V_mono HO_80.out (fun k_ hk => (⟨hk, hk.2⟩ : _ ∧ k_ ≠ gb383))) (fun _ hk => hk.2) (.string ((rd_T55 t374 x82_4).f0))) (fun _ hk => hk.2) (.slice A382_1 ((rd_T55 t374 x82_4).f1).length c382_1)) (fun _ h_ => h_.1)))) hb); have n1_ := am (Kd.V_below (rW ((Kd.V_mono (Kd.V_far (p := ⟨gb383, 1, none⟩) (Kd.V_far (p := ⟨gb383, 0, none⟩) (Kd.V_mono HO_382001.out (fun k_ hk => (⟨hk, hk.2⟩ : _ ∧ k_ ≠ gb383))) (fun _ hk => hk.2) (.string ((rd_T55 t374 x82_4).f0))) (fun _ hk => hk.2) (.slice A382_1 ((rd_T55 t374 x82_4).f1).length c382_1)) (fun _ h_ => h_.1)))) hb); have n2_ := am (Kd.V_below (rW ((Kd.V_mono (Kd.V_far (p := ⟨gb383, 1, none⟩) (Kd.V_far (p := ⟨gb383, 0, none⟩) (Kd.V_mono HO_382002.out (fun k_ hk => (⟨hk, hk.2⟩ : _ ∧ k_ ≠ gb383))) (fun _ hk => hk.2) (.string ((rd_T55 t374 x82_4).f0))) (fun _ hk => hk.2) (.slice A382_1 ((rd_T55 t374 x82_4).f1).length c382_1)) (fun _ h_ => h_.1)))) hb); have n3_ := am (Kd.V_below (rW ((Kd.V_mono (Kd.V_far (p := ⟨gb383, 1, none⟩) (Kd.V_far (p := ⟨gb383, 0, none⟩) (Kd.V_mono HL382_1.out (fun k_ hk => (⟨hk, hk.2⟩ : _ ∧ k_ ≠ gb383))) (fun _ hk => hk.2) (.string ((rd_T55 t374 x82_4).f0))) (fun _ hk => hk.2) (.slice A382_1 ((rd_T55 t374 x82_4).f1).length c382_1)) (fun _ h_ => h_.1)))) hb); have n4_ := am (blk_below (g := gb350) (o := .cells #[.slice A0_0 l0_0.length c0_0, .slice A0_1 l0_1.length c0_1, .slice A0_2 l0_2.length c0_2, .slice (some ad371) l0_3.length c0_3] 27 (0, 0)) (bf BK350) hb); have n5_ := am (blk_below (g := gb351) (o := .cells #[.slice A0_0 l0_0.length c0_0, .slice A0_1 l0_1.length c0_1, .slice A0_2 l0_2.length c0_2, .slice (some ad371) l0_3.length c0_3] 58 (0, 0)) (bf BK351) hb); have n6_ := am (blk_below (g := gb372) (o := .cells #[.string ((rd_T34 l0_3 x65_3).f0), .string ((rd_T34 l0_3 x65_3).f1), .string ((rd_T34 l0_3 x65_3).f2), .string ((rd_T34 l0_3 x65_3).f3), .slice A371_4 ((rd_T34 l0_3 x65_3).f4).length c371_4] 34 (0, 0)) (bf BK372) hb); have n7_ := am (blk_below (g := gb381) (o := .cells #[.string t373, .slice (some ad382) t374.length co134, .slice Ao135 t377.length co135] 38 (0, 0)) (bf BK381) hb); have n8_ := am (Kd.C_below ((Kd.V_reads' (rW ((Kd.V_mono (Kd.V_far (p := ⟨gb383, 1, none⟩) (Kd.V_far (p := ⟨gb383, 0, none⟩) (Kd.V_mono HL382_1.out (fun k_ hk => (⟨hk, hk.2⟩ : _ ∧ k_ ≠ gb383))) (fun _ hk => hk.2) (.string ((rd_T55 t374 x82_4).f0))) (fun _ hk => hk.2) (.slice A382_1 ((rd_T55 t374 x82_4).f1).length c382_1)) (fun _ h_ => h_.1))))).2.2) hb); have n9_ := am (blk_below (g := gb383) (o := .cells #[.string ((rd_T55 t374 x82_4).f0), .slice A382_1 ((rd_T55 t374 x82_4).f1).length c382_1] 55 (0, 0)) (bp BK383) hb); have n10_ := bs hb; clear HO_80; clear HO_382001; clear HO_382002; clear HL382_1; clear BK350; clear BK351; clear BK372; clear BK381; clear HR382_1; clear BK383; clear HB; have HO_80 := n0_; have HO_382001 := n1_; have HO_382002 := n2_; have HL382_1 := n3_; have BK350 := n4_; have BK351 := n5_; have BK372 := n6_; have BK381 := n7_; have HR382_1 := n8_; have BK383 := n9_; have HB := n10_; clear n0_ n1_ n2_ n3_ n4_ n5_ n6_ n7_ n8_ n9_ n10_; (try clear hb); (try clear hk)))
                go_roundg k4
                case measure => have := HK1.out; have := HK2.out; have := HK3.out; have := HK4.out; omega
                case rel => exact ⟨(wrap64 (x82_4 + 1)), rq, H', ⟨by have := HK1.out; have := HK2.out; have := HK3.out; have := HK4.out; omega⟩, ⟨rW (Kd.V_mono HO_80.out (fun _ hk => ⟨hk.1.1, ⟨hk.1.2.1, ⟨hk.1.2.2.1, hk.1.2.2.2⟩⟩⟩))⟩, ⟨rW (Kd.V_mono HO_382001.out (fun _ hk => ⟨hk.1.1, ⟨hk.1.2.1, ⟨hk.1.2.2.1, hk.1.2.2.2⟩⟩⟩))⟩, ⟨rW (Kd.V_mono HO_382002.out (fun _ hk => ⟨hk.1.1, ⟨hk.1.2.1, ⟨hk.1.2.2.1, hk.1.2.2.2⟩⟩⟩))⟩, ⟨bd BK350⟩, ⟨bd BK351⟩, ⟨bd BK372⟩, ⟨bd BK381⟩, ⟨bq⟩⟩
               rw [if_neg c139] at H
               exact absurd H (by simp)
              rw [if_neg c138] at H
              exact absurd H (by simp)
             rw [if_neg c137] at H
             have c137b0 : decide (x82_4 < (t374.length : Int)) = false := decide_eq_false c137
             clear c137
             have H' := am H
             clear H
             go_wp2
             go_roundg k4
             case measure => have := HK1.out; have := HK2.out; have := HK3.out; have := HK4.out; omega
             case rel => exact ⟨(wrap64 (x65_3 + 1)), rq, H', ⟨by have := HK1.out; have := HK2.out; have := HK3.out; have := HK4.out; omega⟩, ⟨bd BK350⟩, ⟨bd BK351⟩, ⟨bq⟩⟩
          rw [if_neg c100] at H
          exact absurd H (by simp)
         rw [if_neg c99] at H
         exact absurd H (by simp)
        rw [if_neg c98] at H
        have c98b0 : decide (x65_3 < (l0_3.length : Int)) = false := decide_eq_false c98
        clear c98
        obtain rfl := Option.some.inj H
        go_wp2
        go_ret
        exact ⟨eq', bq⟩
 replace c3 := Bool.eq_false_iff.mpr c3
 subst c3
 rw [if_neg nf] at H
 obtain rfl := Option.some.inj H
 go_enter Tryz.func6, Tryz.ntmps6
 go_wp2_with (first | ((with_reducible refine gate_dst (N := 1) rfl ?_); refine bx 1 #[.slice A0_0 l0_0.length c0_0, .slice A0_1 l0_1.length c0_1, .slice A0_2 l0_2.length c0_2, .slice A0_3 l0_3.length c0_3] 27 ?_; intro gb350 hg w164 hbox hb; have BK350 := am hbox; have GE350 := sz hg; replace HB := bs hb; clear hb hbox hg; obtain ⟨zmg, zmh, zmi, zmj, zmk, zml, zmm, zmn⟩ := bc4 BK350) | ((with_reducible refine gate_dst (N := 3) rfl ?_); refine bx 3 #[.slice none 0 0, .slice none 0 0, .slice none 0 0, .slice none 0 0] 58 ?_; intro gb351 hg w166 hbox hb; have BK351 := am hbox; have GE351 := sz hg; have NB350_351 := nl hg BK350; have NB351_350 := ng hg BK350; replace BK350 := bk BK350 hb; replace HB := bs hb; clear hb hbox hg; have hnb167 := NB351_350.out; have hnc167 := NB350_351.out; obtain ⟨zmo, zmp, zmq, zmr, zms, zmt, zmu, zmv⟩ := bc4 BK351) | ((with_reducible refine gate_callee (f := 14) rfl ?_); refine gL (some 19) Tryz.func14 #[.agg #[.slice A0_0 l0_0.length c0_0, .slice A0_1 l0_1.length c0_1, .slice A0_2 l0_2.length c0_2, .slice A0_3 l0_3.length c0_3]] ?_; (with_reducible refine (morphology_words_parts.calls k _ _ l0_0 _ _ l0_1 _ _ l0_2 _ _ l0_3 false _ ?side1 ?side2 ?side3 ?side4 ?side5 ?side6 ?side7 ?side8 (Glob.below HG.out bq) A2.out).mono ?_); (case side1 => exact Kd.C_below HR0_0.out bq); (case side2 => exact HC0_0.out); (case side3 => exact Kd.C_below HR0_1.out bq); (case side4 => exact HC0_1.out); (case side5 => exact Kd.C_below HR0_2.out bq); (case side6 => exact HC0_2.out); (case side7 => exact Kd.C_below HR0_3.out bq); (case side8 => exact HC0_3.out); rintro e w169 ⟨rfl, hb⟩; refine ⟨_, rfl, ?_⟩; replace BK350 := am (blk_below (g := gb350) (o := .cells #[.slice A0_0 l0_0.length c0_0, .slice A0_1 l0_1.length c0_1, .slice A0_2 l0_2.length c0_2, .slice A0_3 l0_3.length c0_3] 27 (0, 0)) (bf BK350) hb); replace BK351 := am (blk_below (g := gb351) (o := .cells #[.slice A0_0 l0_0.length c0_0, .slice A0_1 l0_1.length c0_1, .slice A0_2 l0_2.length c0_2, .slice A0_3 l0_3.length c0_3] 58 (0, 0)) (bp BK351) hb); replace HB := bs hb; (try clear hb)))
 go_ret
 exact ⟨eq', bq⟩
def OnlyN (Q : Exit → Act → World → Prop) : Exit → Act → World → Prop
  | .normal, a, w => Q .normal a w
  | _, _, _ => False
theorem wp_onlyN {P : Program} {c : Code} {Q : Exit → Act → World → Prop} {a : Act} {w : World} (h : c.wp P (OnlyN Q) a w) : c.wp P Q a w :=
  wp_mono h (fun e a w q => by cases e <;> first | exact q | exact q.elim)
attribute [local go_sem] Oper.semAt_some
theorem C65_set {W : World} {g o : Nat} {cs : Array Value} {t : TypeId} {A : Option Addr} {n : Nat} {xs : List S65} (u : Value) (h : Kd.C k65 W A n xs) (hg : W.heap[g]? = some (.cells cs t (0, 0))) (hcs : ∀ (i : Nat) (s : ByteArray), cs[i]? ≠ some (.string s)) : Kd.C k65 (W.setCell ⟨g, o, none⟩ u) A n xs := by
 obtain ⟨h1, h2, h3⟩ := h
 refine ⟨h1, h2, fun hn => ?_⟩
 obtain ⟨ad, e, hr⟩ := h3 hn
 refine ⟨ad, e, fun j p hj => ?_⟩
 obtain ⟨c, h4, h5, h6⟩ := hr j p hj
 have hc := k65_open h5
 subst hc
 refine ⟨_, rfl, k65_mk _ _, fun i v hv => ?_⟩
 have hcell := h6 i v hv
 have hstr : ∃ s, v = .string s := by
  match i, hv with
  | 0, hv => exact ⟨_, (Option.some.inj hv).symm⟩
  | 1, hv => exact ⟨_, (Option.some.inj hv).symm⟩
 obtain ⟨s, rfl⟩ := hstr
 have hne : g ≠ (ad.add (j * k65.sz + i)).block := by
  rintro e2
  have hsp : ∀ a : Addr, a.block = g → W.cell? a = some (.string s) → False := by
   rintro ⟨b, off, sp⟩ rfl hcl
   cases sp with
   | none => exact hcs off s ((blk_cell hg off).symm.trans hcl)
   | some q => simp [World.cell?, hg] at hcl
  exact hsp _ e2.symm hcell
 rw [World.cell?_of_block (Below.heap_setCell W ⟨g, o, none⟩ u _ (Ne.symm hne))]
 exact hcell
theorem GRec.set {W : World} {g o : Nat} {cs : Array Value} {t : TypeId} {dims : List S55} {v : Value} (u : Value) (h : GRec dims v W) (hg : W.heap[g]? = some (.cells cs t (0, 0))) (hcs : ∀ (i : Nat) (s : ByteArray), cs[i]? ≠ some (.string s)) : GRec dims v (W.setCell ⟨g, o, none⟩ u) := by
 obtain ⟨r, A, c, h1, h2, h3, h4⟩ := h
 exact ⟨r, A, c, h1, h2, C65_set u h3 hg hcs, h4⟩
theorem no_str1 {x : Value} (h : ∀ s, x ≠ .string s) (i : Nat) (s : ByteArray) : #[x][i]? ≠ some (.string s) := by
 match i with
 | 0 => exact fun e => h s (Option.some.inj e)
 | i + 1 => simp
def CellPost (k : Nat) (dims : List S55) (w : World) (e : Ending) (w' : World) : Prop := ∃ (A : Option Addr) (n c : Nat) (ok : Bool), e = .returned (.tuple #[.slice A n c, .bool ok]) ∧ (ok = true → feature_dimensions.f k dims = some true ∧ GRec dims (.slice A n c) w') ∧ Below w.heap.size w w'
theorem paradigm_Cell.calls (k : Nat) (a0_0 : ByteArray) (A0_1 : Option Addr) (c0_1 : Nat) (l0_1 : List S55) (A0_2 : Option Addr) (c0_2 : Nat) (l0_2 : List (List S79)) (n : Int) (b : Bool) (w : World) (hr0_1 : Kd.C k55 w A0_1 l0_1.length l0_1) (hc0_1 : l0_1.length ≤ c0_1) (hr0_2 : Kd.C (Kd.slice 79 k79) w A0_2 l0_2.length l0_2) (hc0_2 : l0_2.length ≤ c0_2) (hf : feature_dimensions.f k l0_1 = some b) :
  Calls Tryz.prog 7 #[.agg #[.string a0_0, .slice A0_1 l0_1.length c0_1, .slice A0_2 l0_2.length c0_2], .int .i64 n] w (CellPost k l0_1 w) := by
 have HR := am hr0_1
 have HC := am hc0_1
 have HR2 := am hr0_2
 have HC2 := am hc0_2
 have HF := am hf
 obtain ⟨cnt, hcnt⟩ : ∃ cnt, paradigm_Count.f k a0_0 l0_1 l0_2 = some cnt := by unfold paradigm_Count.f; rw [hf]; exact ⟨_, rfl⟩
 have HCNT := am hcnt
 clear hr0_1 hc0_1 hr0_2 hc0_2 hf hcnt
 refine calls_of_marks Tryz.func7 rfl ?_
 simp only [Tryz.ntmps7, List.size_toArray, List.length_cons, List.length_nil, Nat.reduceAdd, Nat.reduceSub, Array.replicate_succ, Array.replicate_zero, List.push_toArray, List.append_toArray, List.nil_append, List.cons_append]
 go_upto_region 1 with (fail)
 generalize hW : ((((w.alloc (.cells #[.string a0_0, .slice A0_1 l0_1.length c0_1, .slice A0_2 l0_2.length c0_2] 38)).alloc (.cells #[.int .i64 n] 3)).alloc (.cells #[.slice none 0 0] 32)).alloc (.cells #[.bool false] 4)) = W0
 have hsz : W0.heap.size = w.heap.size + 1 + 1 + 1 + 1 := by rw [← hW]; simp
 have b2 : W0.heap[w.heap.size]? = some (.cells #[.string a0_0, .slice A0_1 l0_1.length c0_1, .slice A0_2 l0_2.length c0_2] 38 (0, 0)) := by rw [← hW]; exact blk_alloc (blk_alloc (blk_alloc (blk_new w _) _) _) _
 have b3 : W0.heap[w.heap.size + 1]? = some (.cells #[.int .i64 n] 3 (0, 0)) := by rw [← hW]; exact blk_alloc (blk_alloc (by have := blk_new (w.alloc (.cells #[.string a0_0, .slice A0_1 l0_1.length c0_1, .slice A0_2 l0_2.length c0_2] 38)) (.cells #[.int .i64 n] 3); rwa [World.size_alloc] at this) _) _
 have b4 : W0.heap[w.heap.size + 1 + 1]? = some (.cells #[.slice none 0 0] 32 (0, 0)) := by rw [← hW]; exact blk_alloc (by have := blk_new ((w.alloc (.cells #[.string a0_0, .slice A0_1 l0_1.length c0_1, .slice A0_2 l0_2.length c0_2] 38)).alloc (.cells #[.int .i64 n] 3)) (.cells #[.slice none 0 0] 32); rwa [World.size_alloc, World.size_alloc] at this) _
 have b5 : W0.heap[w.heap.size + 1 + 1 + 1]? = some (.cells #[.bool false] 4 (0, 0)) := by rw [← hW]; have := blk_new (((w.alloc (.cells #[.string a0_0, .slice A0_1 l0_1.length c0_1, .slice A0_2 l0_2.length c0_2] 38)).alloc (.cells #[.int .i64 n] 3)).alloc (.cells #[.slice none 0 0] 32)) (.cells #[.bool false] 4); rwa [World.size_alloc, World.size_alloc, World.size_alloc] at this
 have hbl : Below w.heap.size w W0 := by rw [← hW]; exact below_alloc (below_alloc (below_alloc (below_alloc (Below.refl _ _) _) _) _) _
 clear hW
 have B2 := am b2
 have B3 := am b3
 have B4 := am b4
 have B5 := am b5
 have HB := am hbl
 have HSZ := am hsz
 clear b2 b3 b4 b5 hbl hsz
 by_cases h1 : n < 0
 ·have e1 : decide (n < 0) = true := decide_eq_true h1
  clear h1
  have hx3 := (blk_cell B3.out 0).trans rfl
  have hx4 := (blk_cell B4.out 0).trans rfl
  have hf4 := blk_frozen B4.out 0
  have hx5 := (blk_cell B5.out 0).trans rfl
  have hf5 := blk_frozen B5.out 0
  go_quiet (fail)
  go_wp2
  have HBD := am (show Below w.heap.size w (W0.drewN nq) from pw_below_drewN HB.out nq)
  have B4' := am (blk_drewN B4.out nq)
  have B5' := am (blk_drewN B5.out nq)
  have hne : w.heap.size + 1 + 1 ≠ w.heap.size + 1 + 1 + 1 := by omega
  have D4 := am (blk_far (blk_set B4'.out 0 (.slice none 0 0)) (p := ⟨w.heap.size + 1 + 1 + 1, 0, none⟩) hne (.bool false))
  have D5 := am (blk_set (blk_far B5'.out (p := ⟨w.heap.size + 1 + 1, 0, none⟩) (Ne.symm hne) (.slice none 0 0)) 0 (.bool false))
  have hy4 := (blk_cell D4.out 0).trans rfl
  have hy5 := (blk_cell D5.out 0).trans rfl
  refine ⟨.tuple #[.slice none 0 0, .bool false], by simp [results, Tryz.results7, go_sem, hy4, hy5], none, 0, 0, false, rfl, (fun h => by cases h), ?_⟩
  exact below_set (below_set HBD.out (by omega)) (by omega)
 have e1 : decide (n < 0) = false := decide_eq_false h1
 clear h1
 have D2 := am (blk_drew B2.out)
 have D3 := am (blk_drew B3.out)
 have D4 := am (blk_drew B4.out)
 have D5 := am (blk_drew B5.out)
 have HBD := am (below_drew HB.out)
 have HSD := am (show W0.drew.heap.size = w.heap.size + 1 + 1 + 1 + 1 from HSZ.out)
 refine wp_onlyN ?_
 refine start_ (n := 8) (S := fun w' => w'.cell? ⟨w.heap.size + 1, 0, none⟩ = some (.int .i64 n) ∧ w'.cell? ⟨w.heap.size, 0, none⟩ = some (.string a0_0) ∧ w'.cell? ⟨w.heap.size, 1, none⟩ = some (.slice A0_1 l0_1.length c0_1) ∧ w'.cell? ⟨w.heap.size, 2, none⟩ = some (.slice A0_2 l0_2.length c0_2)) (ds := []) (tf 8 0) (by kernel_rfl) rfl rfl ⟨(blk_cell D3.out 0).trans rfl, (blk_cell D2.out 0).trans rfl, (blk_cell D2.out 1).trans rfl, (blk_cell D2.out 2).trans rfl⟩ (fun hHeld => ?_)
 generalize W0.drew = wd at D2 D3 D4 D5 HBD HSD hHeld ⊢
 refine take_ (i := 0) (N := some 8) (v := ?_) (a' := ?_) (tf 8 1) rfl rfl (by kernel_rfl) (fun _ _ _ h => h) (Or.inl ⟨by rfl, ?_⟩) hHeld ?_ ?_
 rotate_left
 ·rintro w' ⟨s0, s1, s2, s3⟩
  go_simp
  with_reducible rfl
 rotate_left
 ·simp only [Act.put, List.setIfInBounds_toArray, List.set_cons_zero, List.set_cons_succ, i64_w, i32_w]
  rfl
 refine pure_ (i := 1) (N := some 9) (v := ?_) (a' := ?_) (tf 8 2) rfl rfl (by kernel_rfl) (fun _ _ _ h => h) (Or.inl ⟨by rfl, ?_⟩) ?_ ?_
 rotate_left
 ·intro w'
  go_simp
  with_reducible rfl
 rotate_left
 ·simp only [Act.put, List.setIfInBounds_toArray, List.set_cons_zero, List.set_cons_succ, i64_w, i32_w]
  rfl
 refine pure_ (i := 2) (N := some 10) (v := ?_) (a' := ?_) (tf 8 3) rfl rfl (by kernel_rfl) (fun _ _ _ h => h) (Or.inl ⟨by rfl, ?_⟩) ?_ ?_
 rotate_left
 ·intro w'
  go_simp
  with_reducible rfl
 rotate_left
 ·simp only [Act.put, List.setIfInBounds_toArray, List.set_cons_zero, List.set_cons_succ, i64_w, i32_w]
  rfl
 refine take_ (i := 3) (N := some 11) (v := ?_) (a' := ?_) (tf 8 4) rfl rfl (by kernel_rfl) (fun _ _ _ h => h) (Or.inl ⟨by rfl, ?_⟩) hHeld ?_ ?_
 rotate_left
 ·rintro w' ⟨s0, s1, s2, s3⟩
  go_simp
  with_reducible rfl
 rotate_left
 ·simp only [Act.put, List.setIfInBounds_toArray, List.set_cons_zero, List.set_cons_succ, i64_w, i32_w]
  rfl
 refine take_ (i := 4) (N := some 12) (v := ?_) (a' := ?_) (tf 8 5) rfl rfl (by kernel_rfl) (fun _ _ _ h => h) (Or.inl ⟨by rfl, ?_⟩) hHeld ?_ ?_
 rotate_left
 ·rintro w' ⟨s0, s1, s2, s3⟩
  go_simp
  with_reducible rfl
 rotate_left
 ·simp only [Act.put, List.setIfInBounds_toArray, List.set_cons_zero, List.set_cons_succ, i64_w, i32_w]
  rfl
 refine one_ (i := 5) (N := some 13) (tf 8 6) rfl rfl (by kernel_rfl) (by decide) (fun K hK => ?_)
 refine goes_ Tryz.func20 (by kernel_rfl) rfl #[.agg #[.string a0_0, .slice A0_1 l0_1.length c0_1, .slice A0_2 l0_2.length c0_2]] (by rfl) rfl rfl (by simp only [List.map_toArray, List.map_cons, List.map_nil]; rfl) ?_
 with_reducible refine (paradigm_Count.calls k a0_0 A0_1 c0_1 l0_1 A0_2 c0_2 l0_2 cnt _ (Kd.C_below HR.out HBD.out) HC.out (Kd.C_below HR2.out HBD.out) HC2.out HCNT.out).mono ?_
 rintro e w3 ⟨rfl, hb⟩
 refine ⟨_, rfl, ?_⟩
 have C2 := am (blk_below D2.out hb)
 have C3 := am (blk_below D3.out hb)
 have C4 := am (blk_below D4.out hb)
 have C5 := am (blk_below D5.out hb)
 have HB3 := am (below_step HBD.out hb)
 have HSZ3 := am hb.size
 clear hb
 refine hK.out _ _ ⟨(blk_cell C3.out 0).trans rfl, (blk_cell C2.out 0).trans rfl, (blk_cell C2.out 1).trans rfl, (blk_cell C2.out 2).trans rfl⟩ (fun hHeld => ?_)
 clear hK K
 refine norm_ (a' := ?_) ?_ ?_
 rotate_left
 ·show Act.put _ (some 13) _ = _
  simp only [Act.put, List.setIfInBounds_toArray, List.set_cons_zero, List.set_cons_succ, i64_w, i32_w]
  rfl
 refine pure_ (i := 6) (N := some 14) (v := ?_) (a' := ?_) (tf 8 7) rfl rfl (by kernel_rfl) (fun _ _ _ h => h) (Or.inl ⟨by rfl, ?_⟩) ?_ ?_
 rotate_left
 ·intro w'
  go_simp
  with_reducible rfl
 rotate_left
 ·simp only [Act.put, List.setIfInBounds_toArray, List.set_cons_zero, List.set_cons_succ, i64_w, i32_w]
  rfl
 refine pure_ (i := 7) (N := some 15) (v := ?_) (a' := ?_) (tf 8 8) rfl rfl (by kernel_rfl) (fun _ _ _ h => h) (Or.inl ⟨by rfl, ?_⟩) ?_ ?_
 rotate_left
 ·intro w'
  go_simp
  with_reducible rfl
 rotate_left
 ·simp only [Act.put, List.setIfInBounds_toArray, List.set_cons_zero, List.set_cons_succ, i64_w, i32_w]
  rfl
 refine done_ (by kernel_rfl) ?_
 simp only [OnlyN]
 clear hHeld
 by_cases h2 : cnt ≤ n
 ·have e2 : decide (cnt ≤ n) = true := decide_eq_true h2
  simp only [e2]
  clear h2 e2
  have hx4 := (blk_cell C4.out 0).trans rfl
  have hf4 := blk_frozen C4.out 0
  have hx5 := (blk_cell C5.out 0).trans rfl
  have hf5 := blk_frozen C5.out 0
  go_wp2
  have hne : w.heap.size + 1 + 1 ≠ w.heap.size + 1 + 1 + 1 := by omega
  have E4 := am (blk_far (blk_set C4.out 0 (.slice none 0 0)) (p := ⟨w.heap.size + 1 + 1 + 1, 0, none⟩) hne (.bool false))
  have E5 := am (blk_set (blk_far C5.out (p := ⟨w.heap.size + 1 + 1, 0, none⟩) (Ne.symm hne) (.slice none 0 0)) 0 (.bool false))
  have hy4 := (blk_cell E4.out 0).trans rfl
  have hy5 := (blk_cell E5.out 0).trans rfl
  refine ⟨.tuple #[.slice none 0 0, .bool false], by simp [results, Tryz.results7, go_sem, hy4, hy5], none, 0, 0, false, rfl, (fun h => by cases h), ?_⟩
  exact below_set (below_set HB3.out (by omega)) (by omega)
 have e2 : decide (cnt ≤ n) = false := decide_eq_false h2
 simp only [e2]
 clear h2 e2
 have hx2 := fun o => pw_cell_below (below_alloc (Below.refl w3.heap.size w3) o) ((blk_cell C2.out 1).trans rfl : w3.cell? ⟨w.heap.size, 1, none⟩ = some (.slice A0_1 l0_1.length c0_1))
 go_wp2_with (first | (go_at_call 21; refine (feature_All.calls _ _ _ _).mono ?_; rintro e w1 ⟨rfl, rfl⟩))
 clear hx2
 generalize hW : ((w3.alloc (.cells #[.int .i64 0] 3)).alloc (.cells #[.slice A0_1 l0_1.length c0_1] 35)) = W4
 have hsz4 : W4.heap.size = w3.heap.size + 1 + 1 := by rw [← hW]; simp
 have hb4 : Below w3.heap.size w3 W4 := by rw [← hW]; exact below_alloc (below_alloc (Below.refl _ _) _) _
 have d6 : W4.heap[w3.heap.size]? = some (.cells #[.int .i64 0] 3 (0, 0)) := by rw [← hW]; exact blk_alloc (blk_new w3 _) _
 have dd : W4.heap[w3.heap.size + 1]? = some (.cells #[.slice A0_1 l0_1.length c0_1] 35 (0, 0)) := by rw [← hW]; have := blk_new (w3.alloc (.cells #[.int .i64 0] 3)) (.cells #[.slice A0_1 l0_1.length c0_1] 35); rwa [World.size_alloc] at this
 have d3 := blk_below C3.out hb4
 have d4 := blk_below C4.out hb4
 have d5 := blk_below C5.out hb4
 have hbl : Below w.heap.size w W4 := below_step HB3.out hb4
 have hq : w.heap.size + 4 ≤ w3.heap.size := by have := HSZ3.out; have := HSD.out; omega
 clear hW hb4
 refine wp_rangeFunc rfl (enters_of Tryz.func37 (by kernel_rfl) rfl) rfl w.heap.size (by omega) (fun k => k = w.heap.size + 1 + 1 ∨ k = w.heap.size + 1 + 1 + 1 ∨ k = w3.heap.size) (fun k hk => by omega) _ _
  (all_iter k w W4 A0_1 c0_1 l0_1 (w3.heap.size + 1) _ b HR.out HC.out hbl dd (fun j hj => by omega) (by omega) HF.out)
  (fun m v X X' h ht => ⟨h.1, h.2.turn ht⟩)
  (fun m W => ∃ i : Int, W.heap[w.heap.size + 1]? = some (.cells #[.int .i64 n] 3 (0, 0)) ∧ W.heap[w.heap.size + 1 + 1]? = some (.cells #[.slice none 0 0] 32 (0, 0)) ∧ W.heap[w.heap.size + 1 + 1 + 1]? = some (.cells #[.bool false] 4 (0, 0)) ∧ W.heap[w3.heap.size]? = some (.cells #[.int .i64 i] 3 (0, 0)) ∧ Below w.heap.size w W)
  (fun cd W => cd = .ret ∧ b = true ∧ ∃ (A : Option Addr) (nn c : Nat), GRec l0_1 (.slice A nn c) W ∧ W.heap[w.heap.size + 1 + 1]? = some (.cells #[.slice A nn c] 32 (0, 0)) ∧ W.heap[w.heap.size + 1 + 1 + 1]? = some (.cells #[.bool true] 4 (0, 0)) ∧ Below w.heap.size w W)
  (fun m X X' h ht => by obtain ⟨i, h1, h2, h3, h4, h5⟩ := h; exact ⟨i, ht.blk h1, ht.blk h2, ht.blk h3, ht.blk h4, h5.trans (ht.below h5.size)⟩)
  (fun cd X X' h ht => by obtain ⟨h1, h2, A, nn, c, h3, h4, h5, h6⟩ := h; exact ⟨h1, h2, A, nn, c, h3.turn ht, ht.blk h4, ht.blk h5, h6.trans (ht.below h6.size)⟩)
  ⟨0, d3, d4, d5, d6, hbl⟩ [19, 7] ?assign ?body ?done ?stop
 case assign =>
  intro l v W K hK
  simp only [List.foldl_cons, List.foldl_nil, List.setIfInBounds_toArray, List.set_cons_zero, List.set_cons_succ] at hK
  gi_wp2
  first | exact hK | simpa using hK
 case body =>
  rintro l m v W hsz1 ⟨i, f3, f4, f5, f6, hB⟩ ⟨hbt, hgr⟩
  simp only [List.foldl_cons, List.foldl_nil, List.setIfInBounds_toArray, List.set_cons_zero, List.set_cons_succ]
  obtain ⟨r, A, c, rfl, hrc⟩ := id hgr
  have F4 := am f4
  have F5 := am f5
  have F6 := am f6
  have F3 := am f3
  have FB := am hB
  have GR := am hgr
  have BT := am hbt
  have HQ := am hq
  have hx3 := (blk_cell f3 0).trans rfl
  have hx6 := (blk_cell f6 0).trans rfl
  have hf6 := blk_frozen f6 0
  have hx4 := (blk_cell f4 0).trans rfl
  have hf4 := blk_frozen f4 0
  have hx5 := (blk_cell f5 0).trans rfl
  have hf5 := blk_frozen f5 0
  clear hrc f3 f4 f5 f6 hB hgr hbt hq d3 d4 d5 d6 dd hbl hsz4 hsz1
  by_cases ce : i = n
  ·have e3 : (i == n) = true := beq_iff_eq.mpr ce
   clear ce
   gi_wp2
   have hne : w.heap.size + 1 + 1 ≠ w.heap.size + 1 + 1 + 1 := by omega
   exact ⟨((Off.refl _ _).setCell (p := ⟨w.heap.size + 1 + 1, 0, none⟩) (.inl rfl) _).setCell (p := ⟨w.heap.size + 1 + 1 + 1, 0, none⟩) (.inr (.inl rfl)) _, rfl, BT.out, A, r.length, c,
    (GR.out.set _ F4.out (no_str1 (fun s h => by cases h))).set _ (blk_far F5.out (p := ⟨w.heap.size + 1 + 1, 0, none⟩) (Ne.symm hne) _) (no_str1 (fun s h => by cases h)),
    blk_far (blk_set F4.out 0 _) (p := ⟨w.heap.size + 1 + 1 + 1, 0, none⟩) hne _, blk_set (blk_far F5.out (p := ⟨w.heap.size + 1 + 1, 0, none⟩) (Ne.symm hne) _) 0 _, below_set (below_set FB.out (by omega)) (by omega)⟩
  have e3 : (i == n) = false := beq_eq_false_iff_ne.mpr ce
  clear ce
  gi_wp2
  exact ⟨(Off.refl _ _).setCell (p := ⟨w3.heap.size, 0, none⟩) (.inr (.inr rfl)) _, _, blk_far F3.out (p := ⟨w3.heap.size, 0, none⟩) (by have := HQ.out; show w.heap.size + 1 ≠ w3.heap.size; omega) _, blk_far F4.out (p := ⟨w3.heap.size, 0, none⟩) (by have := HQ.out; show w.heap.size + 1 + 1 ≠ w3.heap.size; omega) _, blk_far F5.out (p := ⟨w3.heap.size, 0, none⟩) (by have := HQ.out; show w.heap.size + 1 + 1 + 1 ≠ w3.heap.size; omega) _, blk_set F6.out 0 _, below_set FB.out (by have := HQ.out; omega)⟩
 case done =>
  rintro D m W hD hm ⟨i, f3, f4, f5, f6, hB⟩ hK
  dsimp only
  have F4 := am f4
  have F5 := am f5
  have FB := am hB
  have HK := am hK
  have HD := am (show w.heap.size ≤ D by omega)
  have hx4 := (blk_cell f4 0).trans rfl
  have hf4 := blk_frozen f4 0
  have hx5 := (blk_cell f5 0).trans rfl
  have hf5 := blk_frozen f5 0
  clear f3 f4 f5 f6 hB hq d3 d4 d5 d6 dd hbl hsz4 hD hm hK
  go_wp2
  have hne : w.heap.size + 1 + 1 ≠ w.heap.size + 1 + 1 + 1 := by omega
  have K2 := am (blk_far' (blk_far' HK.out (p := ⟨w.heap.size + 1 + 1, 0, none⟩) (ne_cells HK.out F4.out) (.slice none 0 0)) (p := ⟨w.heap.size + 1 + 1 + 1, 0, none⟩) (ne_cells HK.out F5.out) (.bool false))
  refine ⟨by simp, .inl ⟨_, _, rfl, run_takeDeferred K2.out, ?_⟩⟩
  have E4 := am (blk_far (blk_set F4.out 0 (.slice none 0 0)) (p := ⟨w.heap.size + 1 + 1 + 1, 0, none⟩) hne (.bool false))
  have E5 := am (blk_set (blk_far F5.out (p := ⟨w.heap.size + 1 + 1, 0, none⟩) (Ne.symm hne) (.slice none 0 0)) 0 (.bool false))
  have hy4 := (blk_cell (put_far E4.out (ne_cells K2.out E4.out) (.deferred none)) 0).trans rfl
  have hy5 := (blk_cell (put_far E5.out (ne_cells K2.out E5.out) (.deferred none)) 0).trans rfl
  refine ⟨.tuple #[.slice none 0 0, .bool false], by simp [results, Tryz.results7, go_sem, hy4, hy5], none, 0, 0, false, rfl, (fun h => by cases h), ?_⟩
  exact (below_set (below_set FB.out (by omega)) (by omega)).trans (belowK_b (w := w) (Nat.le_refl _) _ D _ _ HD.out K2.out rfl rfl)
 case stop =>
  rintro D cd W hD ⟨rfl, hbt, A, nn, c, hgr, f4, f5, hB⟩ hK
  refine wpIn_ret ?_
  have F4 := am f4
  have F5 := am f5
  have FB := am hB
  have HK := am hK
  have GR := am hgr
  have BT := am hbt
  have HD := am (show w.heap.size ≤ D by omega)
  clear f4 f5 hB hq d3 d4 d5 d6 dd hbl hsz4 hD hK hgr hbt
  go_wp2
  refine ⟨by simp, .inl ⟨_, _, rfl, run_takeDeferred HK.out, ?_⟩⟩
  have hy4 := (blk_cell (put_far F4.out (ne_cells HK.out F4.out) (.deferred none)) 0).trans rfl
  have hy5 := (blk_cell (put_far F5.out (ne_cells HK.out F5.out) (.deferred none)) 0).trans rfl
  refine ⟨.tuple #[.slice A nn c, .bool true], by simp [results, Tryz.results7, go_sem, hy4, hy5], A, nn, c, true, rfl, (fun _ => ⟨by rw [← BT.out]; exact HF.out, GR.out.turn (Turn.putObj (lo := 0) _ (Nat.zero_le _) HK.out rfl)⟩), ?_⟩
  exact FB.out.trans (belowK_b (w := w) (Nat.le_refl _) W D _ _ HD.out HK.out rfl rfl)
end Go.Proofs.YtcoialpohgfikaaGreatDoor.C
