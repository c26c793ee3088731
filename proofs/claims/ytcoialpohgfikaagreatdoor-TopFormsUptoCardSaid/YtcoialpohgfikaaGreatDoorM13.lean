/- A part of the proof of TopForms, made short by a program. -/
import Derived.Test.YtcoialpohgfikaaGreatDoorM2
import Derived.Test.YtcoialpohgfikaaGreatDoorM3
import Derived.Test.YtcoialpohgfikaaGreatDoorM9
import Derived.Test.YtcoialpohgfikaaGreatDoorM5
import Derived.Test.YtcoialpohgfikaaGreatDoorM4
import Derived.Test.YtcoialpohgfikaaGreatDoorM6
import Derived.Test.YtcoialpohgfikaaGreatDoorM10
import Derived.Test.YtcoialpohgfikaaGreatDoorM12
namespace Go.Proofs.YtcoialpohgfikaaGreatDoor.C
open Go.RowKit Go.Proofs.YtcoialpohgfikaaGreatDoorW.PrintWords Go.Proofs.YtcoialpohgfikaaGreatDoorW.PrintLast Go.Proofs.YtcoialpohgfikaaGreatDoorW.PrintMore
attribute [local go_sem] max2_int min2_int max_two min_two max_three min_three max_four min_four
set_option linter.unusedVariables false
set_option maxHeartbeats 8000000
set_option maxRecDepth 100000
set_option linter.unusedSimpArgs false
theorem morphology_Surface.calls (k : Nat) (A0_0 : Option Addr) (c0_0 : Nat) (l0_0 : List (S48)) (A0_1 : Option Addr) (c0_1 : Nat) (l0_1 : List (S89)) (A0_2 : Option Addr) (c0_2 : Nat) (l0_2 : List (S38)) (A0_3 : Option Addr) (c0_3 : Nat) (l0_3 : List (S34)) (a1 : ByteArray) (A2 : Option Addr) (c2 : Nat) (l2 : List (S65)) (r1 : ByteArray) (r2 : Int) (w : World) (hr0_0 : Kd.C k48 w A0_0 l0_0.length l0_0) (hc0_0 : l0_0.length ≤ c0_0) (hr0_1 : Kd.C k89 w A0_1 l0_1.length l0_1) (hc0_1 : l0_1.length ≤ c0_1) (hr0_2 : Kd.C k38 w A0_2 l0_2.length l0_2) (hc0_2 : l0_2.length ≤ c0_2) (hr0_3 : Kd.C k34 w A0_3 l0_3.length l0_3) (hc0_3 : l0_3.length ≤ c0_3) (hr2 : Kd.C k65 w A2 l2.length l2) (hc2 : l2.length ≤ c2) (hG : Glob w) (h : morphology_Surface.f k l0_0 l0_1 l0_2 l0_3 a1 l2 = some (r1, r2)) :
  Calls Tryz.prog 8 #[.agg #[.slice A0_0 l0_0.length c0_0, .slice A0_1 l0_1.length c0_1, .slice A0_2 l0_2.length c0_2, .slice A0_3 l0_3.length c0_3], .string a1, .slice A2 l2.length c2] w fun e w' => e = .returned (.tuple #[.string r1, .int .i64 r2]) ∧ Below w.heap.size w w' := by
 have HG := am hG
 clear hG
 have hu27 := Tryz.underlying27
 have hu58 := Tryz.underlying58
 have hu34 := Tryz.underlying34
 have hu38 := Tryz.underlying38
 have HR0_0 := am hr0_0
 have HC0_0 := am hc0_0
 clear hr0_0 hc0_0
 have HR0_1 := am hr0_1
 have HC0_1 := am hc0_1
 clear hr0_1 hc0_1
 have HR0_2 := am hr0_2
 have HC0_2 := am hc0_2
 clear hr0_2 hc0_2
 have HR0_3 := am hr0_3
 have HC0_3 := am hc0_3
 clear hr0_3 hc0_3
 have HR2 := am hr2
 have HC2 := am hc2
 clear hr2 hc2
 have HB := am (Below.refl w.heap.size w)
 have H : ((lexicon_Find.f l0_3 a1).bind fun bt387 => (if bt387.2.2.2.2.2 = true then (if bt387.2.2.2.1.toList = ([] : List UInt8) then (morphology_Surface.j0 k l2 ((l2.length : Int) == 0) l0_0 l0_1 l0_2 l0_3 bt387.1 bt387.2.1 bt387.2.2.1 bt387.2.2.2.1 bt387.2.2.2.2.1) else ((morphology_words_paradigm.f k l0_0 l0_1 l0_2 l0_3 bt387.2.2.2.1).bind fun bt396 => ((paradigm_Number.f k bt396.1 bt396.2.1 bt396.2.2.1 l2).bind fun t405 => (morphology_Surface.j0 k l2 (decide (t405 ≥ 0)) l0_0 l0_1 l0_2 l0_3 bt387.1 bt387.2.1 bt387.2.2.1 bt387.2.2.2.1 bt387.2.2.2.2.1)))) else (some ((⟨#[]⟩ : ByteArray), 4)))) = some (r1, r2) := h
 clear h
 replace H := Option.bind_eq_some_iff.mp H
 obtain ⟨⟨t387, t388, t389, t390, t391, t394⟩, A40, H⟩ := H
 (try dsimp only at H)
 have A4 := am A40
 clear A40
 by_cases c5 : t394 = true
 ·subst c5
  rw [if_pos rfl] at H
  have HC6 := am H
  clear H
  go_enter Tryz.func8, Tryz.ntmps8
  go_upto_if 32 with (first | ((with_reducible refine gate_dst (N := 3) rfl ?_); refine bx 3 #[.slice A0_0 l0_0.length c0_0, .slice A0_1 l0_1.length c0_1, .slice A0_2 l0_2.length c0_2, .slice A0_3 l0_3.length c0_3] 27 ?_; intro gb385 hg w7 hbox hb; have BK385 := am hbox; have GE385 := sz hg; replace HB := bs hb; clear hb hbox hg; obtain ⟨zaa, zab, zac, zad, zae, zaf, zag, zah⟩ := bc4 BK385) | ((with_reducible refine gate_dst (N := 8) rfl ?_); refine bx 8 #[.slice none 0 0, .slice none 0 0, .slice none 0 0, .slice none 0 0] 58 ?_; intro gb386 hg w9 hbox hb; have BK386 := am hbox; have GE386 := sz hg; have NB385_386 := nl hg BK385; have NB386_385 := ng hg BK385; replace BK385 := bk BK385 hb; replace HB := bs hb; clear hb hbox hg; have hnb10 := NB386_385.out; have hnc10 := NB385_386.out; obtain ⟨zai, zaj, zak, zal, zam, zan, zao, zap⟩ := bc4 BK386) | ((with_reducible refine gate_store (t := 58) (p := 8) rfl ?_); refine store_event (t := 58) (p := 8) (v := ?vo_w12) (w1 := ((((w9.setCell ⟨gb386, 0, none⟩ (.slice A0_0 l0_0.length c0_0)).setCell ⟨gb386, 1, none⟩ (.slice A0_1 l0_1.length c0_1)).setCell ⟨gb386, 2, none⟩ (.slice A0_2 l0_2.length c0_2)).setCell ⟨gb386, 3, none⟩ (.slice A0_3 l0_3.length c0_3))) ?hg ?ho ?hn ?hr ?_; (case ho => rfl); (case hg => rfl); (case hn => rfl); (case hr => first | (go_simp; done) | (go_simp; rfl)); intro w12 hw; have n0_ : Aside0 (w12.heap[gb385]? = some (.cells #[.slice A0_0 l0_0.length c0_0, .slice A0_1 l0_1.length c0_1, .slice A0_2 l0_2.length c0_2, .slice A0_3 l0_3.length c0_3] 27 (0, 0))) := ⟨(by rw [hw]; exact (bf BK385))⟩; have n1_ : Aside0 (w12.heap[gb386]? = some (.cells #[.slice A0_0 l0_0.length c0_0, .slice A0_1 l0_1.length c0_1, .slice A0_2 l0_2.length c0_2, .slice A0_3 l0_3.length c0_3] 58 (0, 0))) := ⟨(by rw [hw]; exact (bp BK386))⟩; have n2_ : Aside0 (Below w.heap.size w w12) := ⟨(by rw [hw]; exact bq)⟩; clear hw; clear BK385; clear BK386; clear HB; have BK385 := n0_; have BK386 := n1_; have HB := n2_; clear n0_ n1_ n2_; obtain ⟨zaq, zar, zas, zat, zau, zav, zaw, zax⟩ := bc4 BK386) | ((with_reducible refine gate_callee (f := 22) rfl ?_); refine gL (some 22) Tryz.func22 #[.slice A0_3 l0_3.length c0_3, .string a1] ?_; (with_reducible refine (lexicon_Find.calls (fun k_ => k_ < w.heap.size) _ _ l0_3 a1 t387 t388 t389 t390 t391 true _ ?side1 A4.out).mono ?_); (case side1 => exact Kd.V_mk HC0_3.out (Kd.F_below (Kd.C_F k34_heap HR0_3.out) bq)); rintro e w14 ⟨v392, rfl, ho0, hb⟩; refine ⟨_, rfl, ?_⟩; have HO393 := am (Kd.V_lower (Kd.V_mono (ok' := fun k_ => k_ ≠ gb385 ∧ k_ ≠ gb386) ho0 (fun k_ hk_ => ⟨Or.elim hk_ (fun hs_ => fun e_ => Nat.not_le.2 hs_ (by rw [e_]; exact GE385.out)) (fun hn_ => (Kd.freshB (g := gb385) (o := .cells #[.slice A0_0 l0_0.length c0_0, .slice A0_1 l0_1.length c0_1, .slice A0_2 l0_2.length c0_2, .slice A0_3 l0_3.length c0_3] 27 (0, 0)) (bd BK385) k_ hn_)), Or.elim hk_ (fun hs_ => fun e_ => Nat.not_le.2 hs_ (by rw [e_]; exact GE386.out)) (fun hn_ => (Kd.freshB (g := gb386) (o := .cells #[.slice A0_0 l0_0.length c0_0, .slice A0_1 l0_1.length c0_1, .slice A0_2 l0_2.length c0_2, .slice A0_3 l0_3.length c0_3] 58 (0, 0)) (bd BK386) k_ hn_))⟩)) (below_size bq)); replace BK385 := bk BK385 hb; replace BK386 := bk BK386 hb; replace HB := bs hb; (try clear hb); (try clear ho0)) | ((with_reducible refine gate_dst (N := 9) rfl ?_); refine bx 9 #[.string (⟨#[]⟩ : ByteArray), .string (⟨#[]⟩ : ByteArray), .string (⟨#[]⟩ : ByteArray), .string (⟨#[]⟩ : ByteArray), .slice none 0 0] 34 ?_; intro gb395 hg w15 hbox hb; have BK395 := am hbox; have GE395 := sz hg; have NB385_395 := nl hg BK385; have NB395_385 := ng hg BK385; have NB386_395 := nl hg BK386; have NB395_386 := ng hg BK386; replace HO393 := am (Kd.V_below (Kd.V_elderB (rV HO393) gb395 (Nat.le_of_eq hg.symm)) hb); replace BK385 := bk BK385 hb; replace BK386 := bk BK386 hb; replace HB := bs hb; clear hb hbox hg; have hnb16 := NB395_385.out; have hnc16 := NB385_395.out; have hnb17 := NB395_386.out; have hnc17 := NB386_395.out; obtain ⟨zay, zaz, zba, zbb, zbc, zbd, zbe, zbf, zbg, zbh⟩ := bc5 BK395; obtain ⟨Ao19, co19, eo19⟩ := Kd.V_slice HO393.out; subst eo19))
  (try simp only [Act.put, List.setIfInBounds_toArray, List.set_cons_zero, List.set_cons_succ])
  go_cut [11] (fun v11 wc => ∃ (kq : Nat) (x11_5 : Bool), v11 = .bool x11_5 ∧ Aside0 (morphology_Surface.j0 kq l2 x11_5 l0_0 l0_1 l0_2 l0_3 t387 t388 t389 t390 t391 = some (r1, r2)) ∧ Aside0 (kq ≤ k) ∧ Aside0 (Kd.V k65 65 wc w.heap.size (fun k_ => k_ ≠ gb385 ∧ k_ ≠ gb386 ∧ k_ ≠ gb395) (.slice Ao19 t391.length co19) t391) ∧ Aside0 (wc.heap[gb385]? = some (.cells #[(.slice A0_0 l0_0.length c0_0), (.slice A0_1 l0_1.length c0_1), (.slice A0_2 l0_2.length c0_2), (.slice A0_3 l0_3.length c0_3)] 27 (0, 0))) ∧ Aside0 (wc.heap[gb386]? = some (.cells #[(.slice A0_0 l0_0.length c0_0), (.slice A0_1 l0_1.length c0_1), (.slice A0_2 l0_2.length c0_2), (.slice A0_3 l0_3.length c0_3)] 58 (0, 0))) ∧ Aside0 (wc.heap[gb395]? = some (.cells #[.string t387, .string t388, .string t389, .string t390, (.slice Ao19 t391.length co19)] 34 (0, 0))) ∧ Aside0 (Below w.heap.size w wc))
  case first =>
   have H := HC6.out
   clear HC6
   by_cases c20 : t390.toList = ([] : List UInt8)
   ·rw [if_pos c20] at H
    have c20b0 : (t390.toList == ([] : List UInt8)) = true := beq_iff_eq.mpr c20
    have c20b2 : t390.toList.isEmpty = true := List.isEmpty_iff.mpr c20
    have c20b1 : (t390.toList != ([] : List UInt8)) = false := bne_eq_false_iff_eq.mpr c20
    clear c20
    (first | rw [c20b0] | (simp only [i64_w, i32_w]; rw [c20b0]) | simp only [c20b2] | skip)
    have H' := am H
    clear H
    go_wp2
    go_meet
    case rel => exact ⟨_, (((l2.length : Int) == 0)), rq, H', ⟨by first | omega | exact Nat.le_refl _⟩, ⟨rW (Kd.V_mono (Kd.V_far (p := ⟨gb395, 4, none⟩) (Kd.V_far (p := ⟨gb395, 3, none⟩) (Kd.V_far (p := ⟨gb395, 2, none⟩) (Kd.V_far (p := ⟨gb395, 1, none⟩) (Kd.V_far (p := ⟨gb395, 0, none⟩) (Kd.V_mono HO393.out (fun k_ hk => (⟨hk, hk.2⟩ : _ ∧ k_ ≠ gb395))) (fun _ hk => hk.2) (.string t387)) (fun _ hk => hk.2) (.string t388)) (fun _ hk => hk.2) (.string t389)) (fun _ hk => hk.2) (.string t390)) (fun _ hk => hk.2) (.slice Ao19 t391.length co19)) (fun _ hk => ⟨hk.1.1.1, ⟨hk.1.1.2, hk.1.2⟩⟩))⟩, ⟨bf BK385⟩, ⟨bf BK386⟩, ⟨bp BK395⟩, ⟨bq⟩⟩
   rw [if_neg c20] at H
   have c20b0 : (t390.toList == ([] : List UInt8)) = false := beq_eq_false_iff_ne.mpr c20
   have c20b2 : t390.toList.isEmpty = false := List.isEmpty_eq_false_iff.mpr c20
   have c20b1 : (t390.toList != ([] : List UInt8)) = true := bne_iff_ne.mpr c20
   (first | rw [c20b0] | (simp only [i64_w, i32_w]; rw [c20b0]) | simp only [c20b2] | skip)
   replace H := Option.bind_eq_some_iff.mp H
   obtain ⟨⟨t396, t397, t400, t403⟩, A210, H⟩ := H
   (try dsimp only at H)
   have A21 := am A210
   clear A210
   replace H := Option.bind_eq_some_iff.mp H
   obtain ⟨t405, A220, H⟩ := H
   (try dsimp only at H)
   have A22 := am A220
   clear A220
   have H' := am H
   clear H
   have hnb23 := NB386_385.out
   have hnc23 := NB385_386.out
   have hnb24 := NB386_395.out
   have hnc24 := NB395_386.out
   obtain ⟨zbi, zbj, zbk, zbl, zbm, zbn, zbo, zbp⟩ := bc4 BK386
   have hnb26 := NB395_385.out
   have hnc26 := NB385_395.out
   obtain ⟨zbq, zbr, zbs, zbt, zbu, zbv, zbw, zbx, zby, zbz⟩ := bc5 BK395
   go_wp2_with (first | ((with_reducible refine gate_callee (f := 17) rfl ?_); refine gL (some 37) Tryz.func17 #[.agg #[.slice A0_0 l0_0.length c0_0, .slice A0_1 l0_1.length c0_1, .slice A0_2 l0_2.length c0_2, .slice A0_3 l0_3.length c0_3], .string t390] ?_; (with_reducible refine (morphology_words_paradigm.calls k _ _ l0_0 _ _ l0_1 (fun k_ => k_ < w.heap.size) _ _ l0_2 _ _ l0_3 t390 t396 t397 t400 t403 _ ?side1 ?side2 ?side3 ?side4 ?side5 ?side6 ?side7 A21.out).mono ?_); (case side1 => exact Kd.C_below HR0_0.out bq); (case side2 => exact HC0_0.out); (case side3 => exact Kd.C_below HR0_1.out bq); (case side4 => exact HC0_1.out); (case side5 => exact Kd.V_mk HC0_2.out (Kd.F_below (Kd.C_F k38_heap HR0_2.out) bq)); (case side6 => exact Kd.C_below HR0_3.out bq); (case side7 => exact HC0_3.out); rintro e w28 ⟨v398, v401, rfl, ho0, ho1, hb⟩; refine ⟨_, rfl, ?_⟩; have HO399 := am (Kd.V_lower (Kd.V_mono (ok' := fun k_ => k_ ≠ gb385 ∧ k_ ≠ gb386 ∧ k_ ≠ gb395) ho0 (fun k_ hk_ => ⟨Or.elim hk_ (fun hs_ => fun e_ => Nat.not_le.2 hs_ (by rw [e_]; exact GE385.out)) (fun hn_ => (Kd.freshB (g := gb385) (o := .cells #[.slice A0_0 l0_0.length c0_0, .slice A0_1 l0_1.length c0_1, .slice A0_2 l0_2.length c0_2, .slice A0_3 l0_3.length c0_3] 27 (0, 0)) (bf BK385) k_ hn_)), Or.elim hk_ (fun hs_ => fun e_ => Nat.not_le.2 hs_ (by rw [e_]; exact GE386.out)) (fun hn_ => (Kd.freshB (g := gb386) (o := .cells #[.slice A0_0 l0_0.length c0_0, .slice A0_1 l0_1.length c0_1, .slice A0_2 l0_2.length c0_2, .slice A0_3 l0_3.length c0_3] 58 (0, 0)) (bf BK386) k_ hn_)), Or.elim hk_ (fun hs_ => fun e_ => Nat.not_le.2 hs_ (by rw [e_]; exact GE395.out)) (fun hn_ => (Kd.freshB (g := gb395) (o := .cells #[.string t387, .string t388, .string t389, .string t390, .slice Ao19 t391.length co19] 34 (0, 0)) (bp BK395) k_ hn_))⟩)) (below_size bq)); have HO402 := am (Kd.V_lower (Kd.V_mono (ok' := fun k_ => k_ ≠ gb385 ∧ k_ ≠ gb386 ∧ k_ ≠ gb395) ho1 (fun k_ hk_ => ⟨Or.elim hk_ (fun hs_ => fun e_ => Nat.not_le.2 hs_ (by rw [e_]; exact GE385.out)) (fun hn_ => (Kd.freshB (g := gb385) (o := .cells #[.slice A0_0 l0_0.length c0_0, .slice A0_1 l0_1.length c0_1, .slice A0_2 l0_2.length c0_2, .slice A0_3 l0_3.length c0_3] 27 (0, 0)) (bf BK385) k_ hn_)), Or.elim hk_ (fun hs_ => fun e_ => Nat.not_le.2 hs_ (by rw [e_]; exact GE386.out)) (fun hn_ => (Kd.freshB (g := gb386) (o := .cells #[.slice A0_0 l0_0.length c0_0, .slice A0_1 l0_1.length c0_1, .slice A0_2 l0_2.length c0_2, .slice A0_3 l0_3.length c0_3] 58 (0, 0)) (bf BK386) k_ hn_)), Or.elim hk_ (fun hs_ => fun e_ => Nat.not_le.2 hs_ (by rw [e_]; exact GE395.out)) (fun hn_ => (Kd.freshB (g := gb395) (o := .cells #[.string t387, .string t388, .string t389, .string t390, .slice Ao19 t391.length co19] 34 (0, 0)) (bp BK395) k_ hn_))⟩)) (below_size bq)); replace HO393 := am (Kd.V_below (rW ((Kd.V_mono (Kd.V_far (p := ⟨gb395, 4, none⟩) (Kd.V_far (p := ⟨gb395, 3, none⟩) (Kd.V_far (p := ⟨gb395, 2, none⟩) (Kd.V_far (p := ⟨gb395, 1, none⟩) (Kd.V_far (p := ⟨gb395, 0, none⟩) (Kd.V_mono HO393.out (fun k_ hk => (⟨hk, hk.2⟩ : _ ∧ k_ ≠ gb395))) (fun _ hk => hk.2) (.string t387)) (fun _ hk => hk.2) (.string t388)) (fun _ hk => hk.2) (.string t389)) (fun _ hk => hk.2) (.string t390)) (fun _ hk => hk.2) (.slice Ao19 t391.length co19)) (fun _ h_ => h_.1)))) hb); replace BK385 := am (blk_below (g := gb385) (o := .cells #[.slice A0_0 l0_0.length c0_0, .slice A0_1 l0_1.length c0_1, .slice A0_2 l0_2.length c0_2, .slice A0_3 l0_3.length c0_3] 27 (0, 0)) (bf BK385) hb); replace BK386 := am (blk_below (g := gb386) (o := .cells #[.slice A0_0 l0_0.length c0_0, .slice A0_1 l0_1.length c0_1, .slice A0_2 l0_2.length c0_2, .slice A0_3 l0_3.length c0_3] 58 (0, 0)) (bf BK386) hb); replace BK395 := am (blk_below (g := gb395) (o := .cells #[.string t387, .string t388, .string t389, .string t390, .slice Ao19 t391.length co19] 34 (0, 0)) (bp BK395) hb); replace HB := bs hb; (try clear hb); (try clear hk); (try clear ho0); (try clear ho1)) | ((with_reducible refine gate_dst (N := 12) rfl ?_); refine bx 12 #[.string (⟨#[]⟩ : ByteArray), .slice none 0 0, .slice none 0 0] 38 ?_; intro gb404 hg w29 hbox hb; have BK404 := am hbox; have GE404 := sz hg; have NB385_404 := nl hg BK385; have NB404_385 := ng hg BK385; have NB386_404 := nl hg BK386; have NB404_386 := ng hg BK386; have NB395_404 := nl hg BK395; have NB404_395 := ng hg BK395; replace HO393 := am (Kd.V_below (Kd.V_elderB (rV HO393) gb404 (Nat.le_of_eq hg.symm)) hb); replace HO399 := am (Kd.V_below (Kd.V_elderB (rV HO399) gb404 (Nat.le_of_eq hg.symm)) hb); replace HO402 := am (Kd.V_below (Kd.V_elderB (rV HO402) gb404 (Nat.le_of_eq hg.symm)) hb); replace BK385 := bk BK385 hb; replace BK386 := bk BK386 hb; replace BK395 := bk BK395 hb; replace HB := bs hb; clear hb hbox hg; have hnb30 := NB404_385.out; have hnc30 := NB385_404.out; have hnb31 := NB404_386.out; have hnc31 := NB386_404.out; have hnb32 := NB404_395.out; have hnc32 := NB395_404.out; obtain ⟨zca, zcb, zcc, zcd, zce, zcf⟩ := bc3 BK404; obtain ⟨Ao34, co34, eo34⟩ := Kd.V_slice HO399.out; subst eo34; obtain ⟨Ao35, co35, eo35⟩ := Kd.V_slice HO402.out; subst eo35) | ((with_reducible refine gate_callee (f := 23) rfl ?_); refine gL (some 42) Tryz.func23 #[.agg #[.string t396, .slice Ao34 t397.length co34, .slice Ao35 t400.length co35], .slice A2 l2.length c2] ?_; (with_reducible refine (paradigm_Number.calls k t396 _ _ t397 _ _ t400 _ _ l2 t405 _ ?side1 ?side2 ?side3 ?side4 ?side5 ?side6 A22.out).mono ?_); (case side1 => refine (Kd.V_reads' (e := 55) (base := w.heap.size) (ok := fun k_ => ((k_ ≠ gb385 ∧ (k_ ≠ gb386 ∧ k_ ≠ gb395)) ∧ k_ ≠ gb404)) (n := t397.length) (c := co34) ?_).2.2; exact (rW ((Kd.V_mono (Kd.V_far (p := ⟨gb404, 2, none⟩) (Kd.V_far (p := ⟨gb404, 1, none⟩) (Kd.V_far (p := ⟨gb404, 0, none⟩) (Kd.V_mono HO399.out (fun k_ hk => (⟨hk, hk.2⟩ : _ ∧ k_ ≠ gb404))) (fun _ hk => hk.2) (.string t396)) (fun _ hk => hk.2) (.slice Ao34 t397.length co34)) (fun _ hk => hk.2) (.slice Ao35 t400.length co35)) (fun _ h_ => h_.1))))); (case side2 => exact (Kd.V_reads' HO399.out).2.1); (case side3 => refine (Kd.V_reads' (e := 80) (base := w.heap.size) (ok := fun k_ => ((k_ ≠ gb385 ∧ (k_ ≠ gb386 ∧ k_ ≠ gb395)) ∧ k_ ≠ gb404)) (n := t400.length) (c := co35) ?_).2.2; exact (rW ((Kd.V_mono (Kd.V_far (p := ⟨gb404, 2, none⟩) (Kd.V_far (p := ⟨gb404, 1, none⟩) (Kd.V_far (p := ⟨gb404, 0, none⟩) (Kd.V_mono HO402.out (fun k_ hk => (⟨hk, hk.2⟩ : _ ∧ k_ ≠ gb404))) (fun _ hk => hk.2) (.string t396)) (fun _ hk => hk.2) (.slice Ao34 t397.length co34)) (fun _ hk => hk.2) (.slice Ao35 t400.length co35)) (fun _ h_ => h_.1))))); (case side4 => exact (Kd.V_reads' HO402.out).2.1); (case side5 => exact Kd.C_below HR2.out bq); (case side6 => exact HC2.out); rintro e w36 ⟨rfl, hb⟩; refine ⟨_, rfl, ?_⟩; replace HO393 := am (Kd.V_below (rW ((Kd.V_mono (Kd.V_far (p := ⟨gb404, 2, none⟩) (Kd.V_far (p := ⟨gb404, 1, none⟩) (Kd.V_far (p := ⟨gb404, 0, none⟩) (Kd.V_mono HO393.out (fun k_ hk => (⟨hk, hk.2⟩ : _ ∧ k_ ≠ gb404))) (fun _ hk => hk.2) (.string t396)) (fun _ hk => hk.2) (.slice Ao34 t397.length co34)) (fun _ hk => hk.2) (.slice Ao35 t400.length co35)) (fun _ h_ => h_.1)))) hb); replace HO399 := am (Kd.V_below (rW ((Kd.V_mono (Kd.V_far (p := ⟨gb404, 2, none⟩) (Kd.V_far (p := ⟨gb404, 1, none⟩) (Kd.V_far (p := ⟨gb404, 0, none⟩) (Kd.V_mono HO399.out (fun k_ hk => (⟨hk, hk.2⟩ : _ ∧ k_ ≠ gb404))) (fun _ hk => hk.2) (.string t396)) (fun _ hk => hk.2) (.slice Ao34 t397.length co34)) (fun _ hk => hk.2) (.slice Ao35 t400.length co35)) (fun _ h_ => h_.1)))) hb); replace HO402 := am (Kd.V_below (rW ((Kd.V_mono (Kd.V_far (p := ⟨gb404, 2, none⟩) (Kd.V_far (p := ⟨gb404, 1, none⟩) (Kd.V_far (p := ⟨gb404, 0, none⟩) (Kd.V_mono HO402.out (fun k_ hk => (⟨hk, hk.2⟩ : _ ∧ k_ ≠ gb404))) (fun _ hk => hk.2) (.string t396)) (fun _ hk => hk.2) (.slice Ao34 t397.length co34)) (fun _ hk => hk.2) (.slice Ao35 t400.length co35)) (fun _ h_ => h_.1)))) hb); replace BK385 := am (blk_below (g := gb385) (o := .cells #[.slice A0_0 l0_0.length c0_0, .slice A0_1 l0_1.length c0_1, .slice A0_2 l0_2.length c0_2, .slice A0_3 l0_3.length c0_3] 27 (0, 0)) (bf BK385) hb); replace BK386 := am (blk_below (g := gb386) (o := .cells #[.slice A0_0 l0_0.length c0_0, .slice A0_1 l0_1.length c0_1, .slice A0_2 l0_2.length c0_2, .slice A0_3 l0_3.length c0_3] 58 (0, 0)) (bf BK386) hb); replace BK395 := am (blk_below (g := gb395) (o := .cells #[.string t387, .string t388, .string t389, .string t390, .slice Ao19 t391.length co19] 34 (0, 0)) (bf BK395) hb); replace BK404 := am (blk_below (g := gb404) (o := .cells #[.string t396, .slice Ao34 t397.length co34, .slice Ao35 t400.length co35] 38 (0, 0)) (bp BK404) hb); replace HB := bs hb; (try clear hb); (try clear hk)))
   go_meet
   case rel => exact ⟨_, (decide (t405 ≥ 0)), rq, H', ⟨by first | omega | exact Nat.le_refl _⟩, ⟨rW (Kd.V_mono HO393.out (fun _ hk => ⟨hk.1.1.1, ⟨hk.1.1.2, hk.1.2⟩⟩))⟩, ⟨bd BK385⟩, ⟨bd BK386⟩, ⟨bd BK395⟩, ⟨bq⟩⟩
  case rest =>
   clear HC6 zai zaj zak zal zaq zar zas zat zay zaz zba zbb zbc zaa zab zac zad zam zan zao zap zau zav zaw zax zbd zbe zbf zbg zbh zae zaf zag zah
   obtain ⟨kq, x11_5, rfl, HA, HJ5, HO_396004, BK385, BK386, BK395, HB⟩ := hcut
   cases kq with
   | zero => exact absurd HA.out (by simp [morphology_Surface.j0])
   | succ kj5 =>
    have H := HA.out
    clear HA
    simp only [morphology_Surface.j0] at H
    by_cases c37 : x11_5 = true
    ·subst c37
     rw [if_pos rfl] at H
     replace H := Option.bind_eq_some_iff.mp H
     obtain ⟨⟨t406, t407⟩, A380, H⟩ := H
     (try dsimp only at H)
     have A38 := am A380
     clear A380
     by_cases c39 : t407 = true
     ·subst c39
      rw [if_pos rfl] at H
      simp only [Option.some.injEq, Prod.mk.injEq] at H
      obtain ⟨rfl, rfl⟩ := H
      have hnb40 := NB386_385.out
      have hnc40 := NB385_386.out
      have hnb41 := NB386_395.out
      have hnc41 := NB395_386.out
      obtain ⟨zcg, zch, zci, zcj, zck, zcl, zcm, zcn⟩ := bc4 BK386
      have hnb43 := NB395_385.out
      have hnc43 := NB385_395.out
      obtain ⟨zco, zcp, zcq, zcr, zcs, zct, zcu, zcv, zcw, zcx⟩ := bc5 BK395
      go_wp2_with (first | ((with_reducible refine gate_callee (f := 24) rfl ?_); refine gL (some 50) Tryz.func24 #[.agg #[.slice A0_0 l0_0.length c0_0, .slice A0_1 l0_1.length c0_1, .slice A0_2 l0_2.length c0_2, .slice A0_3 l0_3.length c0_3], .agg #[.string t387, .string t388, .string t389, .string t390, .slice Ao19 t391.length co19], .slice A2 l2.length c2] ?_; (with_reducible refine (morphology_words_form.calls kj5 _ _ l0_0 _ _ l0_1 _ _ l0_2 _ _ l0_3 t387 t388 t389 t390 _ _ t391 _ _ l2 t406 true _ (cq HR0_0) HC0_0.out (cq HR0_1) HC0_1.out (cq HR0_2) HC0_2.out (cq HR0_3) HC0_3.out ?side9 ?side10 ?side11 ?side12 (Glob.below HG.out bq) A38.out).mono ?_); (case side9 => repeat (first | exact (Kd.V_reads' HO_396004.out).2.2 | (with_reducible refine Kd.C_alloc ?_ _) | (with_reducible refine Kd.C_drewN ?_ _) | (with_reducible refine Kd.C_drew ?_))); (case side10 => exact (Kd.V_reads' HO_396004.out).2.1); (case side11 => repeat (first | exact (Kd.C_below HR2.out HB.out) | (with_reducible refine Kd.C_alloc ?_ _) | (with_reducible refine Kd.C_drewN ?_ _) | (with_reducible refine Kd.C_drew ?_))); (case side12 => exact HC2.out); rintro e w45 ⟨rfl, hb⟩; refine ⟨_, rfl, ?_⟩; replace HO_396004 := am (Kd.V_below (rV HO_396004) hb); replace BK385 := bk BK385 hb; replace BK386 := bk BK386 hb; replace BK395 := bk BK395 hb; replace HB := bs hb; (try clear hb)))
      go_ret2
      exact ⟨eq', bq⟩
     replace c39 := Bool.eq_false_iff.mpr c39
     subst c39
     rw [if_neg nf] at H
     simp only [Option.some.injEq, Prod.mk.injEq] at H
     obtain ⟨rfl, rfl⟩ := H
     have hnb46 := NB386_385.out
     have hnc46 := NB385_386.out
     have hnb47 := NB386_395.out
     have hnc47 := NB395_386.out
     obtain ⟨zcy, zcz, zda, zdb, zdc, zdd, zde, zdf⟩ := bc4 BK386
     have hnb49 := NB395_385.out
     have hnc49 := NB385_395.out
     obtain ⟨zdg, zdh, zdi, zdj, zdk, zdl, zdm, zdn, zdo, zdp⟩ := bc5 BK395
     go_wp2_with (first | ((with_reducible refine gate_callee (f := 24) rfl ?_); refine gL (some 50) Tryz.func24 #[.agg #[.slice A0_0 l0_0.length c0_0, .slice A0_1 l0_1.length c0_1, .slice A0_2 l0_2.length c0_2, .slice A0_3 l0_3.length c0_3], .agg #[.string t387, .string t388, .string t389, .string t390, .slice Ao19 t391.length co19], .slice A2 l2.length c2] ?_; (with_reducible refine (morphology_words_form.calls kj5 _ _ l0_0 _ _ l0_1 _ _ l0_2 _ _ l0_3 t387 t388 t389 t390 _ _ t391 _ _ l2 t406 false _ (cq HR0_0) HC0_0.out (cq HR0_1) HC0_1.out (cq HR0_2) HC0_2.out (cq HR0_3) HC0_3.out ?side9 ?side10 ?side11 ?side12 (Glob.below HG.out bq) A38.out).mono ?_); (case side9 => repeat (first | exact (Kd.V_reads' HO_396004.out).2.2 | (with_reducible refine Kd.C_alloc ?_ _) | (with_reducible refine Kd.C_drewN ?_ _) | (with_reducible refine Kd.C_drew ?_))); (case side10 => exact (Kd.V_reads' HO_396004.out).2.1); (case side11 => repeat (first | exact (Kd.C_below HR2.out HB.out) | (with_reducible refine Kd.C_alloc ?_ _) | (with_reducible refine Kd.C_drewN ?_ _) | (with_reducible refine Kd.C_drew ?_))); (case side12 => exact HC2.out); rintro e w51 ⟨rfl, hb⟩; refine ⟨_, rfl, ?_⟩; replace HO_396004 := am (Kd.V_below (rV HO_396004) hb); replace BK385 := bk BK385 hb; replace BK386 := bk BK386 hb; replace BK395 := bk BK395 hb; replace HB := bs hb; (try clear hb)))
     go_ret2
     exact ⟨eq', bq⟩
    replace c37 := Bool.eq_false_iff.mpr c37
    subst c37
    rw [if_neg nf] at H
    simp only [Option.some.injEq, Prod.mk.injEq] at H
    obtain ⟨rfl, rfl⟩ := H
    go_wp2
    go_ret2
    exact ⟨eq', bq⟩
 replace c5 := Bool.eq_false_iff.mpr c5
 subst c5
 rw [if_neg nf] at H
 simp only [Option.some.injEq, Prod.mk.injEq] at H
 obtain ⟨rfl, rfl⟩ := H
 go_enter Tryz.func8, Tryz.ntmps8
 go_wp2_with (first | ((with_reducible refine gate_dst (N := 3) rfl ?_); refine bx 3 #[.slice A0_0 l0_0.length c0_0, .slice A0_1 l0_1.length c0_1, .slice A0_2 l0_2.length c0_2, .slice A0_3 l0_3.length c0_3] 27 ?_; intro gb385 hg w52 hbox hb; have BK385 := am hbox; have GE385 := sz hg; replace HB := bs hb; clear hb hbox hg; obtain ⟨zdq, zdr, zds, zdt, zdu, zdv, zdw, zdx⟩ := bc4 BK385) | ((with_reducible refine gate_dst (N := 8) rfl ?_); refine bx 8 #[.slice none 0 0, .slice none 0 0, .slice none 0 0, .slice none 0 0] 58 ?_; intro gb386 hg w54 hbox hb; have BK386 := am hbox; have GE386 := sz hg; have NB385_386 := nl hg BK385; have NB386_385 := ng hg BK385; replace BK385 := bk BK385 hb; replace HB := bs hb; clear hb hbox hg; have hnb55 := NB386_385.out; have hnc55 := NB385_386.out; obtain ⟨zdy, zdz, zea, zeb, zec, zed, zee, zef⟩ := bc4 BK386) | ((with_reducible refine gate_store (t := 58) (p := 8) rfl ?_); refine store_event (t := 58) (p := 8) (v := ?vo_w57) (w1 := ((((w54.setCell ⟨gb386, 0, none⟩ (.slice A0_0 l0_0.length c0_0)).setCell ⟨gb386, 1, none⟩ (.slice A0_1 l0_1.length c0_1)).setCell ⟨gb386, 2, none⟩ (.slice A0_2 l0_2.length c0_2)).setCell ⟨gb386, 3, none⟩ (.slice A0_3 l0_3.length c0_3))) ?hg ?ho ?hn ?hr ?_; (case ho => rfl); (case hg => rfl); (case hn => rfl); (case hr => first | (go_simp; done) | (go_simp; rfl)); intro w57 hw; have n0_ : Aside0 (w57.heap[gb385]? = some (.cells #[.slice A0_0 l0_0.length c0_0, .slice A0_1 l0_1.length c0_1, .slice A0_2 l0_2.length c0_2, .slice A0_3 l0_3.length c0_3] 27 (0, 0))) := ⟨(by rw [hw]; exact (bf BK385))⟩; have n1_ : Aside0 (w57.heap[gb386]? = some (.cells #[.slice A0_0 l0_0.length c0_0, .slice A0_1 l0_1.length c0_1, .slice A0_2 l0_2.length c0_2, .slice A0_3 l0_3.length c0_3] 58 (0, 0))) := ⟨(by rw [hw]; exact (bp BK386))⟩; have n2_ : Aside0 (Below w.heap.size w w57) := ⟨(by rw [hw]; exact bq)⟩; clear hw; clear BK385; clear BK386; clear HB; have BK385 := n0_; have BK386 := n1_; have HB := n2_; clear n0_ n1_ n2_; obtain ⟨zeg, zeh, zei, zej, zek, zel, zem, zen⟩ := bc4 BK386) | ((with_reducible refine gate_callee (f := 22) rfl ?_); refine gL (some 22) Tryz.func22 #[.slice A0_3 l0_3.length c0_3, .string a1] ?_; (with_reducible refine (lexicon_Find.calls (fun k_ => k_ < w.heap.size) _ _ l0_3 a1 t387 t388 t389 t390 t391 false _ ?side1 A4.out).mono ?_); (case side1 => exact Kd.V_mk HC0_3.out (Kd.F_below (Kd.C_F k34_heap HR0_3.out) bq)); rintro e w59 ⟨v392, rfl, ho0, hb⟩; refine ⟨_, rfl, ?_⟩; have HO393 := am (Kd.V_lower (Kd.V_mono (ok' := fun k_ => k_ ≠ gb385 ∧ k_ ≠ gb386) ho0 (fun k_ hk_ => ⟨Or.elim hk_ (fun hs_ => fun e_ => Nat.not_le.2 hs_ (by rw [e_]; exact GE385.out)) (fun hn_ => (Kd.freshB (g := gb385) (o := .cells #[.slice A0_0 l0_0.length c0_0, .slice A0_1 l0_1.length c0_1, .slice A0_2 l0_2.length c0_2, .slice A0_3 l0_3.length c0_3] 27 (0, 0)) (bd BK385) k_ hn_)), Or.elim hk_ (fun hs_ => fun e_ => Nat.not_le.2 hs_ (by rw [e_]; exact GE386.out)) (fun hn_ => (Kd.freshB (g := gb386) (o := .cells #[.slice A0_0 l0_0.length c0_0, .slice A0_1 l0_1.length c0_1, .slice A0_2 l0_2.length c0_2, .slice A0_3 l0_3.length c0_3] 58 (0, 0)) (bd BK386) k_ hn_))⟩)) (below_size bq)); replace BK385 := bk BK385 hb; replace BK386 := bk BK386 hb; replace HB := bs hb; (try clear hb); (try clear ho0)) | ((with_reducible refine gate_dst (N := 9) rfl ?_); refine bx 9 #[.string (⟨#[]⟩ : ByteArray), .string (⟨#[]⟩ : ByteArray), .string (⟨#[]⟩ : ByteArray), .string (⟨#[]⟩ : ByteArray), .slice none 0 0] 34 ?_; intro gb395 hg w60 hbox hb; have BK395 := am hbox; have GE395 := sz hg; have NB385_395 := nl hg BK385; have NB395_385 := ng hg BK385; have NB386_395 := nl hg BK386; have NB395_386 := ng hg BK386; replace HO393 := am (Kd.V_below (Kd.V_elderB (rV HO393) gb395 (Nat.le_of_eq hg.symm)) hb); replace BK385 := bk BK385 hb; replace BK386 := bk BK386 hb; replace HB := bs hb; clear hb hbox hg; have hnb61 := NB395_385.out; have hnc61 := NB385_395.out; have hnb62 := NB395_386.out; have hnc62 := NB386_395.out; obtain ⟨zeo, zep, zeq, zer, zes, zet, zeu, zev, zew, zex⟩ := bc5 BK395; obtain ⟨Ao64, co64, eo64⟩ := Kd.V_slice HO393.out; subst eo64))
 go_ret2
 exact ⟨eq', bq⟩
theorem pentaglottop_TopForms.calls (k : Nat) (A0_0 : Option Addr) (c0_0 : Nat) (l0_0 : List (S48)) (A0_1 : Option Addr) (c0_1 : Nat) (l0_1 : List (S89)) (A0_2 : Option Addr) (c0_2 : Nat) (l0_2 : List (S38)) (A0_3 : Option Addr) (c0_3 : Nat) (l0_3 : List (S34)) (a1 : Int) (a2 : Int) (few : Bool) (chk : Int) (w : World) (hr0_0 : Kd.C k48 w A0_0 l0_0.length l0_0) (hc0_0 : l0_0.length ≤ c0_0) (hr0_1 : Kd.C k89 w A0_1 l0_1.length l0_1) (hc0_1 : l0_1.length ≤ c0_1) (hr0_2 : Kd.C k38 w A0_2 l0_2.length l0_2) (hc0_2 : l0_2.length ≤ c0_2) (hr0_3 : Kd.C k34 w A0_3 l0_3.length l0_3) (hc0_3 : l0_3.length ≤ c0_3) (hG : Glob w) (hln : (l0_2.length : Int) ≤ 1000000000) (hfew : pentaglottop_fewWords.f k l0_0 l0_1 l0_2 l0_3 = some few) (hdim : ∀ j : Int, 0 ≤ j → j < (l0_2.length : Int) → ∃ b, feature_dimensions.f k (rd_T38 l0_2 j).f1 = some b) (hchk : few = true → 0 ≤ a1 → a1 < (l0_3.length : Int) → morphology_Check.f k l0_0 l0_1 l0_2 l0_3 = some chk) (hround : few = true → 0 ≤ a1 → a1 < (l0_3.length : Int) → chk = 0 → ∀ (j : Int) (cl : List S65), 0 ≤ j → j < (l0_2.length : Int) → (rd_T38 l0_2 j).f0.toList = (rd_T34 l0_3 a1).f3.toList → feature_dimensions.f k (rd_T38 l0_2 j).f1 = some true → GoodRec (rd_T38 l0_2 j).f1 cl → ∃ k' s e t u g v, morphology_Surface.f k' l0_0 l0_1 l0_2 l0_3 (rd_T34 l0_3 a1).f0 cl = some (s, e) ∧ paradigm_Underlying.f k' (rd_T38 l0_2 j).f0 (rd_T38 l0_2 j).f1 (rd_T38 l0_2 j).f2 (rd_T34 l0_3 a1).f2 (rd_T34 l0_3 a1).f4 cl = some (t, u) ∧ rewrite_Cascade.f k' l0_0 l0_1 t = some (g, v) ∧ (u = 0 → v = 0 → e = 0 ∧ s.toList = g.toList) ∧ (¬ (u = 0 ∧ v = 0) → e = 2)) :
  Calls Tryz.prog 3 #[.agg #[.slice A0_0 l0_0.length c0_0, .slice A0_1 l0_1.length c0_1, .slice A0_2 l0_2.length c0_2, .slice A0_3 l0_3.length c0_3], .int .i64 a1, .int .i64 a2] w fun e w' => e = .returned (.bool true) ∧ Below w.heap.size w w' := by
 have HG := am hG
 clear hG
 have hu27 := Tryz.underlying27
 have hu34 := Tryz.underlying34
 have hu38 := Tryz.underlying38
 have HR0_0 := am hr0_0
 have HC0_0 := am hc0_0
 clear hr0_0 hc0_0
 have HR0_1 := am hr0_1
 have HC0_1 := am hc0_1
 clear hr0_1 hc0_1
 have HR0_2 := am hr0_2
 have HC0_2 := am hc0_2
 clear hr0_2 hc0_2
 have HR0_3 := am hr0_3
 have HC0_3 := am hc0_3
 clear hr0_3 hc0_3
 have HB := am (Below.refl w.heap.size w)
 have HLN := am hln
 have HFEW := am hfew
 have HDIM := am hdim
 have HCHK := am hchk
 have HRND := am hround
 clear hln hfew hdim hchk hround
 have A6 : Aside0 (pentaglottop_awake06.f = some true) := ⟨rfl⟩
 have A30 : Aside0 (pentaglottop_awake06.f = some true) := ⟨rfl⟩
 go_enter Tryz.func3, Tryz.ntmps3
 go_upto_region 1 with (first | ((with_reducible refine gate_dst (N := 3) rfl ?_); (try (refine gate_guard (by rfl) ?_; dsimp only)); refine bx 3 #[.slice A0_0 l0_0.length c0_0, .slice A0_1 l0_1.length c0_1, .slice A0_2 l0_2.length c0_2, .slice A0_3 l0_3.length c0_3] 27 ?_; intro gb408 hg w5 hbox hb; have BK408 := am hbox; have GE408 := sz hg; replace HB := bs hb; clear hb hbox hg))
 (try simp only [Act.put, List.setIfInBounds_toArray, List.set_cons_zero, List.set_cons_succ])
 go_cut [40] (fun v40 wc => ∃ (x40_3 : Bool), v40 = .bool x40_3 ∧ Aside0 (x40_3 = false → few = true ∧ 0 ≤ a1 ∧ a1 < (l0_3.length : Int) ∧ chk = 0) ∧ Aside0 (wc.heap[gb408]? = some (.cells #[(.slice A0_0 l0_0.length c0_0), (.slice A0_1 l0_1.length c0_1), (.slice A0_2 l0_2.length c0_2), (.slice A0_3 l0_3.length c0_3)] 27 (0, 0))) ∧ Aside0 (Below w.heap.size w wc))
 case first =>
  cases few
  ·have A8 := HFEW
   go_wp2_with (first | ((with_reducible refine gate_callee (f := 4) rfl ?_); refine gL (some 18) Tryz.func4 #[] ?_; (with_reducible refine (pentaglottop_awake06.calls  true _ (Glob.below HG.out bq) A6.out).mono ?_); rintro e w25 ⟨rfl, hb⟩; refine ⟨_, rfl, ?_⟩; replace BK408 := bk BK408 hb; replace HB := bs hb; (try clear hb); obtain ⟨zaa, zab, zac, zad, zae, zaf, zag, zah⟩ := bc4 BK408) | (go_at_call 5; (with_reducible refine (pentaglottop_fewWords.calls k _ _ l0_0 _ _ l0_1 _ _ l0_2 _ _ l0_3 false _ (cq HR0_0) HC0_0.out (cq HR0_1) HC0_1.out (cq HR0_2) HC0_2.out (cq HR0_3) HC0_3.out A8.out).mono ?_); rintro e w27 ⟨rfl, hb⟩; replace BK408 := bk BK408 hb; replace HB := bs hb; (try clear hb)))
   go_meet
   case rel => exact ⟨(true), rq, ⟨fun h => by cases h⟩, ⟨bd BK408⟩, ⟨bq⟩⟩
  have A8 := HFEW
  by_cases c10 : a1 < 0
  ·have c10b0 : decide (a1 < 0) = true := decide_eq_true c10
   clear c10
   (first | rw [c10b0] | (simp only [i64_w, i32_w]; rw [c10b0]) | skip)
   go_wp2_with (first | ((with_reducible refine gate_callee (f := 4) rfl ?_); refine gL (some 18) Tryz.func4 #[] ?_; (with_reducible refine (pentaglottop_awake06.calls  true _ (Glob.below HG.out bq) A6.out).mono ?_); rintro e w11 ⟨rfl, hb⟩; refine ⟨_, rfl, ?_⟩; replace BK408 := bk BK408 hb; replace HB := bs hb; (try clear hb); obtain ⟨zai, zaj, zak, zal, zam, zan, zao, zap⟩ := bc4 BK408) | (go_at_call 5; (with_reducible refine (pentaglottop_fewWords.calls k _ _ l0_0 _ _ l0_1 _ _ l0_2 _ _ l0_3 true _ (cq HR0_0) HC0_0.out (cq HR0_1) HC0_1.out (cq HR0_2) HC0_2.out (cq HR0_3) HC0_3.out A8.out).mono ?_); rintro e w13 ⟨rfl, hb⟩; replace BK408 := bk BK408 hb; replace HB := bs hb; (try clear hb)))
   go_meet
   case rel => exact ⟨(true), rq, ⟨fun h => by cases h⟩, ⟨bd BK408⟩, ⟨bq⟩⟩
  have c10b0 : decide (a1 < 0) = false := decide_eq_false c10
  have C10 := am c10
  clear c10
  (first | rw [c10b0] | (simp only [i64_w, i32_w]; rw [c10b0]) | skip)
  by_cases c14 : a1 ≥ (l0_3.length : Int)
  ·have c14b0 : decide ((l0_3.length : Int) ≤ a1) = true := decide_eq_true c14
   clear c14
   go_wp2_with (first | ((with_reducible refine gate_callee (f := 4) rfl ?_); refine gL (some 18) Tryz.func4 #[] ?_; (with_reducible refine (pentaglottop_awake06.calls  true _ (Glob.below HG.out bq) A6.out).mono ?_); rintro e w15 ⟨rfl, hb⟩; refine ⟨_, rfl, ?_⟩; replace BK408 := bk BK408 hb; replace HB := bs hb; (try clear hb); obtain ⟨zaq, zar, zas, zat, zau, zav, zaw, zax⟩ := bc4 BK408) | (go_at_call 5; (with_reducible refine (pentaglottop_fewWords.calls k _ _ l0_0 _ _ l0_1 _ _ l0_2 _ _ l0_3 true _ (cq HR0_0) HC0_0.out (cq HR0_1) HC0_1.out (cq HR0_2) HC0_2.out (cq HR0_3) HC0_3.out A8.out).mono ?_); rintro e w17 ⟨rfl, hb⟩; replace BK408 := bk BK408 hb; replace HB := bs hb; (try clear hb); obtain ⟨zay, zaz, zba, zbb, zbc, zbd, zbe, zbf⟩ := bc4 BK408))
   go_meet
   case rel => exact ⟨(true), rq, ⟨fun h => by cases h⟩, ⟨bd BK408⟩, ⟨bq⟩⟩
  have c14b0 : decide ((l0_3.length : Int) ≤ a1) = false := decide_eq_false c14
  have C14 := am c14
  clear c14
  have A19 := am (HCHK.out rfl (by have := C10.out; omega) (by have := C14.out; omega))
  go_wp2_with (first | ((with_reducible refine gate_callee (f := 4) rfl ?_); refine gL (some 18) Tryz.func4 #[] ?_; (with_reducible refine (pentaglottop_awake06.calls  true _ (Glob.below HG.out bq) A6.out).mono ?_); rintro e w20 ⟨rfl, hb⟩; refine ⟨_, rfl, ?_⟩; replace BK408 := bk BK408 hb; replace HB := bs hb; (try clear hb); obtain ⟨zbg, zbh, zbi, zbj, zbk, zbl, zbm, zbn⟩ := bc4 BK408) | (go_at_call 5; (with_reducible refine (pentaglottop_fewWords.calls k _ _ l0_0 _ _ l0_1 _ _ l0_2 _ _ l0_3 true _ (cq HR0_0) HC0_0.out (cq HR0_1) HC0_1.out (cq HR0_2) HC0_2.out (cq HR0_3) HC0_3.out A8.out).mono ?_); rintro e w22 ⟨rfl, hb⟩; replace BK408 := bk BK408 hb; replace HB := bs hb; (try clear hb); obtain ⟨zbo, zbp, zbq, zbr, zbs, zbt, zbu, zbv⟩ := bc4 BK408) | (go_at_call 6; (with_reducible refine (morphology_Check.calls k _ _ l0_0 _ _ l0_1 _ _ l0_2 _ _ l0_3 chk _ (cq HR0_0) HC0_0.out (cq HR0_1) HC0_1.out (cq HR0_2) HC0_2.out (cq HR0_3) HC0_3.out (Glob.below HG.out bq) A19.out).mono ?_); rintro e w24 ⟨rfl, hb⟩; replace BK408 := bk BK408 hb; replace HB := bs hb; (try clear hb)))
  go_meet
  case rel => exact ⟨((chk != 0)), rq, ⟨fun h => ⟨by first | rfl | trivial, by have := C10.out; omega, by have := C14.out; omega, by simpa using h⟩⟩, ⟨bd BK408⟩, ⟨bq⟩⟩
 case rest =>
  obtain ⟨x40_3, rfl, HFA, BK408, HB⟩ := hcut
  by_cases c29 : x40_3 = true
  ·subst c29
   go_wp2_with (first | ((with_reducible refine gate_callee (f := 4) rfl ?_); refine gL (some 41) Tryz.func4 #[] ?_; (with_reducible refine (pentaglottop_awake06.calls  true _ (Glob.below HG.out bq) A30.out).mono ?_); rintro e w31 ⟨rfl, hb⟩; refine ⟨_, rfl, ?_⟩; replace BK408 := bk BK408 hb; replace HB := bs hb; (try clear hb)))
   go_ret
   exact ⟨eq', bq⟩
  replace c29 := Bool.eq_false_iff.mpr c29
  subst c29
  obtain ⟨hfw, c32, c33, hch⟩ := HFA.out rfl
  have FW := am hfw
  have CH := am hch
  have I0 := am c32
  have I1 := am c33
  have c32b0 : decide (0 ≤ a1) = true := decide_eq_true c32
  have c33b0 : decide (a1 < (l0_3.length : Int)) = true := decide_eq_true c33
  clear c32 c33 hfw hch
  obtain ⟨zbw, zbx, zby, zbz, zca, zcb, zcc, zcd⟩ := bc4 BK408
  have p413 : 0 ≤ (a1 : Int) := oq
  have q413 : a1 < (l0_3.length : Int) := oq
  obtain ⟨ad413, A413_4, c413_4, e413, hx413_0, hx413_1, hx413_2, hx413_3, hx413_4, hl413_4, hi413_4⟩ := at_T34 HR0_3.out a1 p413 q413
  cases e413
  replace hx413_0 := cw hx413_0
  replace hx413_1 := cw hx413_1
  replace hx413_2 := cw hx413_2
  replace hx413_3 := cw hx413_3
  replace hx413_4 := cw hx413_4
  have HR413_4 := am hi413_4
  have HC413_4 := am hl413_4
  clear hi413_4 hl413_4
  replace p413 := eq_true p413
  replace q413 := eq_true q413
  go_wp2_with (first | ((with_reducible refine gate_dst (N := 7) rfl ?_); (try (refine gate_guard (by rfl) ?_; dsimp only)); refine bx 7 #[.string (⟨#[]⟩ : ByteArray), .string (⟨#[]⟩ : ByteArray), .string (⟨#[]⟩ : ByteArray), .string (⟨#[]⟩ : ByteArray), .slice none 0 0] 34 ?_; intro gb414 hg w35 hbox hb; have BK414 := am hbox; have GE414 := sz hg; have NB408_414 := nl hg BK408; have NB414_408 := ng hg BK408; replace BK408 := bk BK408 hb; replace HB := bs hb; clear hb hbox hg; have hnb36 := NB414_408.out; have hnc36 := NB408_414.out; obtain ⟨zce, zcf, zcg, zch, zci, zcj, zck, zcl, zcm, zcn⟩ := bc5 BK414))
  go_loopg [8] (l0_2.length + 1) (fun kq v8 w' => ∃ (x8_2 : Int), v8 = .int .i64 x8_2 ∧ Aside0 (0 ≤ x8_2 ∧ x8_2 ≤ (l0_2.length : Int)) ∧ Aside0 ((l0_2.length : Int) - x8_2 < kq) ∧ Aside0 (w'.heap[gb408]? = some (.cells #[(.slice A0_0 l0_0.length c0_0), (.slice A0_1 l0_1.length c0_1), (.slice A0_2 l0_2.length c0_2), (.slice (some ad413) l0_3.length c0_3)] 27 (0, 0))) ∧ Aside0 (w'.heap[gb414]? = some (.cells #[.string ((rd_T34 l0_3 a1).f0), .string ((rd_T34 l0_3 a1).f1), .string ((rd_T34 l0_3 a1).f2), .string ((rd_T34 l0_3 a1).f3), (.slice A413_4 ((rd_T34 l0_3 a1).f4).length c413_4)] 34 (0, 0))) ∧ Aside0 (Below w.heap.size w w'))
  case atStart => exact ⟨(0), rq, ⟨by omega⟩, ⟨by omega⟩, ⟨bf BK408⟩, ⟨bp BK414⟩, ⟨bq⟩⟩
  case round =>
   clear c32b0 c33b0 zbw zbx zby zbz zce zcf zcg zch zci zca zcb zcc zcd zcj zck zcl zcm zcn hx413_0 hx413_1 hx413_2 hx413_3 hx413_4 p413 q413
   obtain ⟨x8_2, rfl, HX, HK2, BK408, BK414, HB⟩ := hrel
   obtain ⟨k2, rfl⟩ : ∃ k2, gk = k2 + 1 := ⟨gk - 1, by have := HK2.out; have := HX.out; omega⟩
   by_cases c38 : x8_2 < (l0_2.length : Int)
   ·have c38b0 : decide (x8_2 < (l0_2.length : Int)) = true := decide_eq_true c38
    have C38 := am c38
    clear c38
    have c39b0 : decide (0 ≤ x8_2) = true := decide_eq_true HX.out.1
    obtain ⟨bd_, hbd_⟩ := HDIM.out x8_2 HX.out.1 C38.out
    have A40 := am hbd_
    clear hbd_
    have hnb42 := NB408_414.out
    have hnc42 := NB414_408.out
    obtain ⟨zco, zcp, zcq, zcr, zcs, zct, zcu, zcv⟩ := bc4 BK408
    have p415 : 0 ≤ (x8_2 : Int) := oq
    have q415 : x8_2 < (l0_2.length : Int) := oq
    obtain ⟨ad415, A415_1, c415_1, A415_2, c415_2, e415, hx415_0, hx415_1, hx415_2, hl415_1, hi415_1, hl415_2, hi415_2⟩ := at_T38 HR0_2.out x8_2 p415 q415
    cases e415
    replace hx415_0 := cw hx415_0
    replace hx415_1 := cw hx415_1
    replace hx415_2 := cw hx415_2
    have HR415_1 := am hi415_1
    have HC415_1 := am hl415_1
    clear hi415_1 hl415_1
    have HR415_2 := am hi415_2
    have HC415_2 := am hl415_2
    clear hi415_2 hl415_2
    replace p415 := eq_true p415
    replace q415 := eq_true q415
    go_upto_region 9 with (first | ((with_reducible refine gate_dst (N := 9) rfl ?_); (try (refine gate_guard (by rfl) ?_; dsimp only)); refine bx 9 #[.string (⟨#[]⟩ : ByteArray), .slice none 0 0, .slice none 0 0] 38 ?_; intro gb416 hg w44 hbox hb; have BK416 := am hbox; have GE416 := sz hg; have NB408_416 := nl hg BK408; have NB416_408 := ng hg BK408; have NB414_416 := nl hg BK414; have NB416_414 := ng hg BK414; replace BK408 := bk BK408 hb; replace BK414 := bk BK414 hb; replace HB := bs hb; clear hb hbox hg; have hnb45 := NB416_408.out; have hnc45 := NB408_416.out; have hnb46 := NB416_414.out; have hnc46 := NB414_416.out; obtain ⟨zcw, zcx, zcy, zcz, zda, zdb⟩ := bc3 BK416) | ((with_reducible refine gate_callee (f := 7) rfl ?_); refine gL (some 62) Tryz.func7 #[.agg #[.string ((rd_T38 l0_2 x8_2).f0), .slice A415_1 ((rd_T38 l0_2 x8_2).f1).length c415_1, .slice A415_2 ((rd_T38 l0_2 x8_2).f2).length c415_2], .int .i64 a2] ?_; (with_reducible refine (paradigm_Cell.calls k ((rd_T38 l0_2 x8_2).f0) _ _ ((rd_T38 l0_2 x8_2).f1) _ _ ((rd_T38 l0_2 x8_2).f2) a2 bd_ _ ?side1 ?side2 ?side3 ?side4 A40.out).mono ?_); (case side1 => exact Kd.C_below HR415_1.out bq); (case side2 => exact HC415_1.out); (case side3 => exact Kd.C_below HR415_2.out bq); (case side4 => exact HC415_2.out); rintro e w48 ⟨A418, n418, c418, t420, rfl, ho0, hb⟩; refine ⟨_, rfl, ?_⟩; have HO419 := am (ho0); replace BK408 := am (blk_below (g := gb408) (o := .cells #[.slice A0_0 l0_0.length c0_0, .slice A0_1 l0_1.length c0_1, .slice (some ad415) l0_2.length c0_2, .slice (some ad413) l0_3.length c0_3] 27 (0, 0)) (bf BK408) hb); replace BK414 := am (blk_below (g := gb414) (o := .cells #[.string ((rd_T34 l0_3 a1).f0), .string ((rd_T34 l0_3 a1).f1), .string ((rd_T34 l0_3 a1).f2), .string ((rd_T34 l0_3 a1).f3), .slice A413_4 ((rd_T34 l0_3 a1).f4).length c413_4] 34 (0, 0)) (bf BK414) hb); replace BK416 := am (blk_below (g := gb416) (o := .cells #[.string ((rd_T38 l0_2 x8_2).f0), .slice A415_1 ((rd_T38 l0_2 x8_2).f1).length c415_1, .slice A415_2 ((rd_T38 l0_2 x8_2).f2).length c415_2] 38 (0, 0)) (bp BK416) hb); replace HB := bs hb; (try clear hb); (try clear ho0)))
    (try simp only [Act.put, List.setIfInBounds_toArray, List.set_cons_zero, List.set_cons_succ])
    go_cut [73] (fun v73 wc => ∃ (x73_40 : Bool), v73 = .bool x73_40 ∧ Aside0 (x73_40 = false → ((rd_T38 l0_2 x8_2).f0).toList = ((rd_T34 l0_3 a1).f3).toList ∧ feature_dimensions.f k (rd_T38 l0_2 x8_2).f1 = some true ∧ GRec (rd_T38 l0_2 x8_2).f1 (.slice A418 n418 c418) wc) ∧ Aside0 (wc.heap[gb408]? = some (.cells #[(.slice A0_0 l0_0.length c0_0), (.slice A0_1 l0_1.length c0_1), (.slice (some ad415) l0_2.length c0_2), (.slice (some ad413) l0_3.length c0_3)] 27 (0, 0))) ∧ Aside0 (wc.heap[gb414]? = some (.cells #[.string ((rd_T34 l0_3 a1).f0), .string ((rd_T34 l0_3 a1).f1), .string ((rd_T34 l0_3 a1).f2), .string ((rd_T34 l0_3 a1).f3), (.slice A413_4 ((rd_T34 l0_3 a1).f4).length c413_4)] 34 (0, 0))) ∧ Aside0 (wc.heap[gb416]? = some (.cells #[.string ((rd_T38 l0_2 x8_2).f0), (.slice A415_1 ((rd_T38 l0_2 x8_2).f1).length c415_1), (.slice A415_2 ((rd_T38 l0_2 x8_2).f2).length c415_2)] 38 (0, 0))) ∧ Aside0 (Below w.heap.size w wc))
    case first =>
     by_cases c49 : ((rd_T38 l0_2 x8_2).f0).toList = ((rd_T34 l0_3 a1).f3).toList
     ·have c49b0 : (((rd_T38 l0_2 x8_2).f0).toList == ((rd_T34 l0_3 a1).f3).toList) = true := beq_iff_eq.mpr c49
      have c49b1 : (((rd_T38 l0_2 x8_2).f0).toList != ((rd_T34 l0_3 a1).f3).toList) = false := bne_eq_false_iff_eq.mpr c49
      have C49 := am c49
      clear c49
      (first | rw [c49b0] | (simp only [i64_w, i32_w]; rw [c49b0]) | skip)
      have hnb50 := NB416_408.out
      have hnc50 := NB408_416.out
      have hnb51 := NB416_414.out
      have hnc51 := NB414_416.out
      obtain ⟨zdc, zdd, zde, zdf, zdg, zdh⟩ := bc3 BK416
      have hnb53 := NB414_408.out
      have hnc53 := NB408_414.out
      obtain ⟨zdi, zdj, zdk, zdl, zdm, zdn, zdo, zdp, zdq, zdr⟩ := bc5 BK414
      go_wp2
      go_meet
      case rel => exact ⟨(!t420), rq, ⟨fun h => ⟨C49.out, (HO419.out (by simpa using h)).1, (HO419.out (by simpa using h)).2⟩⟩, ⟨bd BK408⟩, ⟨bd BK414⟩, ⟨bd BK416⟩, ⟨bq⟩⟩
     have c49b0 : (((rd_T38 l0_2 x8_2).f0).toList == ((rd_T34 l0_3 a1).f3).toList) = false := beq_eq_false_iff_ne.mpr c49
     have c49b1 : (((rd_T38 l0_2 x8_2).f0).toList != ((rd_T34 l0_3 a1).f3).toList) = true := bne_iff_ne.mpr c49
     clear c49
     (first | rw [c49b0] | (simp only [i64_w, i32_w]; rw [c49b0]) | skip)
     have hnb55 := NB416_408.out
     have hnc55 := NB408_416.out
     have hnb56 := NB416_414.out
     have hnc56 := NB414_416.out
     obtain ⟨zds, zdt, zdu, zdv, zdw, zdx⟩ := bc3 BK416
     have hnb58 := NB414_408.out
     have hnc58 := NB408_414.out
     obtain ⟨zdy, zdz, zea, zeb, zec, zed, zee, zef, zeg, zeh⟩ := bc5 BK414
     go_wp2
     go_meet
     case rel => exact ⟨(true), rq, ⟨fun h => by cases h⟩, ⟨bd BK408⟩, ⟨bd BK414⟩, ⟨bd BK416⟩, ⟨bq⟩⟩
    case rest =>
     clear c38b0 c39b0 zco zcp zcq zcr zcw zcx zcy zcs zct zcu zcv zcz zda zdb hx415_0 hx415_1 hx415_2 p415 q415
     obtain ⟨x73_40, rfl, HFB, BK408, BK414, BK416, HB⟩ := hcut
     by_cases c60 : x73_40 = true
     ·subst c60
      go_wp2
      go_roundg k2
      case measure => omega
      case rel => exact ⟨(wrap64 (x8_2 + 1)), rq, ⟨by have := HX.out; have := HLN.out; have := C38.out; unfold wrap64; omega⟩, ⟨by have := HX.out; have := HLN.out; have := C38.out; have := HK2.out; unfold wrap64; omega⟩, ⟨bd BK408⟩, ⟨bd BK414⟩, ⟨bq⟩⟩
     replace c60 := Bool.eq_false_iff.mpr c60
     subst c60
     obtain ⟨hnm, hdt, t417, A_, cA_, he_, hlA_, hC_, hgr_⟩ := HFB.out rfl
     injection he_ with e1_ e2_ e3_
     subst e1_ e2_ e3_
     obtain ⟨k2_, t421, t422, t423, t424, t425, t426, h61, h62, h63, hok_, hno_⟩ := HRND.out FW.out I0.out I1.out CH.out x8_2 t417 HX.out.1 C38.out hnm hdt hgr_
     have A61 := am h61
     have A62 := am h62
     have A63 := am h63
     have HOK := am hok_
     have HNO := am hno_
     have HC_ := am hC_
     have HLA := am hlA_
     clear hnm hdt hlA_ hC_ hgr_ h61 h62 h63 hok_ hno_
     by_cases c64 : t424 = 0
     ·have C64 := am c64
      have c64b0 : (t424 == 0) = true := beq_iff_eq.mpr c64
      have c64b1 : (t424 != 0) = false := bne_eq_false_iff_eq.mpr c64
      clear c64
      by_cases c65 : t426 = 0
      ·obtain ⟨c66, he_⟩ := HOK.out C64.out c65
       have c65b0 : (t426 == 0) = true := beq_iff_eq.mpr c65
       have c65b1 : (t426 != 0) = false := bne_eq_false_iff_eq.mpr c65
       have c66b0 : (t422 == 0) = true := beq_iff_eq.mpr c66
       have c66b1 : (t422 != 0) = false := bne_eq_false_iff_eq.mpr c66
       have c67b0 : (t421.toList == t425.toList) = true := beq_iff_eq.mpr he_
       clear c65 he_
       have hnb67 := NB408_414.out
       have hnc67 := NB414_408.out
       have hnb68 := NB408_416.out
       have hnc68 := NB416_408.out
       obtain ⟨zei, zej, zek, zel, zem, zen, zeo, zep⟩ := bc4 BK408
       have hnb70 := NB414_416.out
       have hnc70 := NB416_414.out
       obtain ⟨zeq, zer, zes, zet, zeu, zev, zew, zex, zey, zez⟩ := bc5 BK414
       go_wp2_with (first | ((with_reducible refine gate_callee (f := 8) rfl ?_); refine gL (some 79) Tryz.func8 #[.agg #[.slice A0_0 l0_0.length c0_0, .slice A0_1 l0_1.length c0_1, .slice (some ad415) l0_2.length c0_2, .slice (some ad413) l0_3.length c0_3], .string ((rd_T34 l0_3 a1).f0), .slice A418 t417.length c418] ?_; (with_reducible refine (morphology_Surface.calls _ _ _ l0_0 _ _ l0_1 _ _ l0_2 _ _ l0_3 ((rd_T34 l0_3 a1).f0) _ _ t417 t421 t422 _ (cq HR0_0) HC0_0.out (cq HR0_1) HC0_1.out (cq HR0_2) HC0_2.out (cq HR0_3) HC0_3.out (cd HC_) HLA.out (Glob.below HG.out bq) A61.out).mono ?_); rintro e w73 ⟨rfl, hb⟩; refine ⟨_, rfl, ?_⟩; replace HC_ := am (Kd.C_below (by (with_reducible repeat (first | refine Kd.C_alloc ?_ _ | refine Kd.C_drewN ?_ _ | refine Kd.C_drew ?_)); exact HC_.out) hb); replace BK408 := bk BK408 hb; replace BK414 := bk BK414 hb; replace BK416 := bk BK416 hb; replace HB := bs hb; (try clear hb); obtain ⟨zfa, zfb, zfc, zfd, zfe, zff⟩ := bc3 BK416; obtain ⟨zfg, zfh, zfi, zfj, zfk, zfl, zfm, zfn, zfo, zfp⟩ := bc5 BK414) | ((with_reducible refine gate_callee (f := 9) rfl ?_); refine gL (some 89) Tryz.func9 #[.agg #[.string ((rd_T38 l0_2 x8_2).f0), .slice A415_1 ((rd_T38 l0_2 x8_2).f1).length c415_1, .slice A415_2 ((rd_T38 l0_2 x8_2).f2).length c415_2], .string ((rd_T34 l0_3 a1).f2), .slice A413_4 ((rd_T34 l0_3 a1).f4).length c413_4, .slice A418 t417.length c418] ?_; (with_reducible refine (paradigm_Underlying.calls _ ((rd_T38 l0_2 x8_2).f0) _ _ ((rd_T38 l0_2 x8_2).f1) _ _ ((rd_T38 l0_2 x8_2).f2) ((rd_T34 l0_3 a1).f2) _ _ ((rd_T34 l0_3 a1).f4) _ _ t417 t423 t424 _ (cq HR415_1) HC415_1.out (cq HR415_2) HC415_2.out (cq HR413_4) HC413_4.out (cd HC_) HLA.out A62.out).mono ?_); rintro e w76 ⟨rfl, hb⟩; refine ⟨_, rfl, ?_⟩; replace HC_ := am (Kd.C_below (by (with_reducible repeat (first | refine Kd.C_alloc ?_ _ | refine Kd.C_drewN ?_ _ | refine Kd.C_drew ?_)); exact HC_.out) hb); replace BK408 := bk BK408 hb; replace BK414 := bk BK414 hb; replace BK416 := bk BK416 hb; replace HB := bs hb; (try clear hb); obtain ⟨zfq, zfr, zfs, zft, zfu, zfv, zfw, zfx⟩ := bc4 BK408) | ((with_reducible refine gate_callee (f := 10) rfl ?_); refine gL (some 98) Tryz.func10 #[.slice A0_0 l0_0.length c0_0, .slice A0_1 l0_1.length c0_1, .string t423] ?_; (with_reducible refine (rewrite_Cascade.calls _ _ _ l0_0 _ _ l0_1 t423 t425 t426 _ (cq HR0_0) HC0_0.out (cq HR0_1) HC0_1.out (Glob.below HG.out bq) A63.out).mono ?_); rintro e w78 ⟨rfl, hb⟩; refine ⟨_, rfl, ?_⟩; replace HC_ := am (Kd.C_below (by (with_reducible repeat (first | refine Kd.C_alloc ?_ _ | refine Kd.C_drewN ?_ _ | refine Kd.C_drew ?_)); exact HC_.out) hb); replace BK408 := bk BK408 hb; replace BK414 := bk BK414 hb; replace BK416 := bk BK416 hb; replace HB := bs hb; (try clear hb)))
       go_ret
       exact ⟨eq', bq⟩
      have c66 := HNO.out (fun h => c65 h.2)
      have c65b0 : (t426 == 0) = false := beq_eq_false_iff_ne.mpr c65
      have c65b1 : (t426 != 0) = true := bne_iff_ne.mpr c65
      have c66b : (t422 == 2) = true := beq_iff_eq.mpr c66
      clear c65 c66
      have hnb91 := NB408_414.out
      have hnc91 := NB414_408.out
      have hnb92 := NB408_416.out
      have hnc92 := NB416_408.out
      obtain ⟨zfy, zfz, zga, zgb, zgc, zgd, zge, zgf⟩ := bc4 BK408
      have hnb94 := NB414_416.out
      have hnc94 := NB416_414.out
      obtain ⟨zgg, zgh, zgi, zgj, zgk, zgl, zgm, zgn, zgo, zgp⟩ := bc5 BK414
      go_wp2_with (first | ((with_reducible refine gate_callee (f := 8) rfl ?_); refine gL (some 79) Tryz.func8 #[.agg #[.slice A0_0 l0_0.length c0_0, .slice A0_1 l0_1.length c0_1, .slice (some ad415) l0_2.length c0_2, .slice (some ad413) l0_3.length c0_3], .string ((rd_T34 l0_3 a1).f0), .slice A418 t417.length c418] ?_; (with_reducible refine (morphology_Surface.calls _ _ _ l0_0 _ _ l0_1 _ _ l0_2 _ _ l0_3 ((rd_T34 l0_3 a1).f0) _ _ t417 t421 t422 _ (cq HR0_0) HC0_0.out (cq HR0_1) HC0_1.out (cq HR0_2) HC0_2.out (cq HR0_3) HC0_3.out (cd HC_) HLA.out (Glob.below HG.out bq) A61.out).mono ?_); rintro e w97 ⟨rfl, hb⟩; refine ⟨_, rfl, ?_⟩; replace HC_ := am (Kd.C_below (by (with_reducible repeat (first | refine Kd.C_alloc ?_ _ | refine Kd.C_drewN ?_ _ | refine Kd.C_drew ?_)); exact HC_.out) hb); replace BK408 := bk BK408 hb; replace BK414 := bk BK414 hb; replace BK416 := bk BK416 hb; replace HB := bs hb; (try clear hb); obtain ⟨zgq, zgr, zgs, zgt, zgu, zgv⟩ := bc3 BK416; obtain ⟨zgw, zgx, zgy, zgz, zha, zhb, zhc, zhd, zhe, zhf⟩ := bc5 BK414) | ((with_reducible refine gate_callee (f := 9) rfl ?_); refine gL (some 89) Tryz.func9 #[.agg #[.string ((rd_T38 l0_2 x8_2).f0), .slice A415_1 ((rd_T38 l0_2 x8_2).f1).length c415_1, .slice A415_2 ((rd_T38 l0_2 x8_2).f2).length c415_2], .string ((rd_T34 l0_3 a1).f2), .slice A413_4 ((rd_T34 l0_3 a1).f4).length c413_4, .slice A418 t417.length c418] ?_; (with_reducible refine (paradigm_Underlying.calls _ ((rd_T38 l0_2 x8_2).f0) _ _ ((rd_T38 l0_2 x8_2).f1) _ _ ((rd_T38 l0_2 x8_2).f2) ((rd_T34 l0_3 a1).f2) _ _ ((rd_T34 l0_3 a1).f4) _ _ t417 t423 t424 _ (cq HR415_1) HC415_1.out (cq HR415_2) HC415_2.out (cq HR413_4) HC413_4.out (cd HC_) HLA.out A62.out).mono ?_); rintro e w100 ⟨rfl, hb⟩; refine ⟨_, rfl, ?_⟩; replace HC_ := am (Kd.C_below (by (with_reducible repeat (first | refine Kd.C_alloc ?_ _ | refine Kd.C_drewN ?_ _ | refine Kd.C_drew ?_)); exact HC_.out) hb); replace BK408 := bk BK408 hb; replace BK414 := bk BK414 hb; replace BK416 := bk BK416 hb; replace HB := bs hb; (try clear hb); obtain ⟨zhg, zhh, zhi, zhj, zhk, zhl, zhm, zhn⟩ := bc4 BK408) | ((with_reducible refine gate_callee (f := 10) rfl ?_); refine gL (some 98) Tryz.func10 #[.slice A0_0 l0_0.length c0_0, .slice A0_1 l0_1.length c0_1, .string t423] ?_; (with_reducible refine (rewrite_Cascade.calls _ _ _ l0_0 _ _ l0_1 t423 t425 t426 _ (cq HR0_0) HC0_0.out (cq HR0_1) HC0_1.out (Glob.below HG.out bq) A63.out).mono ?_); rintro e w102 ⟨rfl, hb⟩; refine ⟨_, rfl, ?_⟩; replace HC_ := am (Kd.C_below (by (with_reducible repeat (first | refine Kd.C_alloc ?_ _ | refine Kd.C_drewN ?_ _ | refine Kd.C_drew ?_)); exact HC_.out) hb); replace BK408 := bk BK408 hb; replace BK414 := bk BK414 hb; replace BK416 := bk BK416 hb; replace HB := bs hb; (try clear hb)))
      go_ret
      exact ⟨eq', bq⟩
     have c66 := HNO.out (fun h => c64 h.1)
     have c64b0 : (t424 == 0) = false := beq_eq_false_iff_ne.mpr c64
     have c64b1 : (t424 != 0) = true := bne_iff_ne.mpr c64
     have c66b : (t422 == 2) = true := beq_iff_eq.mpr c66
     clear c64 c66
     have hnb103 := NB408_414.out
     have hnc103 := NB414_408.out
     have hnb104 := NB408_416.out
     have hnc104 := NB416_408.out
     obtain ⟨zho, zhp, zhq, zhr, zhs, zht, zhu, zhv⟩ := bc4 BK408
     have hnb106 := NB414_416.out
     have hnc106 := NB416_414.out
     obtain ⟨zhw, zhx, zhy, zhz, zia, zib, zic, zid, zie, zif⟩ := bc5 BK414
     go_wp2_with (first | ((with_reducible refine gate_callee (f := 8) rfl ?_); refine gL (some 79) Tryz.func8 #[.agg #[.slice A0_0 l0_0.length c0_0, .slice A0_1 l0_1.length c0_1, .slice (some ad415) l0_2.length c0_2, .slice (some ad413) l0_3.length c0_3], .string ((rd_T34 l0_3 a1).f0), .slice A418 t417.length c418] ?_; (with_reducible refine (morphology_Surface.calls _ _ _ l0_0 _ _ l0_1 _ _ l0_2 _ _ l0_3 ((rd_T34 l0_3 a1).f0) _ _ t417 t421 t422 _ (cq HR0_0) HC0_0.out (cq HR0_1) HC0_1.out (cq HR0_2) HC0_2.out (cq HR0_3) HC0_3.out (cd HC_) HLA.out (Glob.below HG.out bq) A61.out).mono ?_); rintro e w109 ⟨rfl, hb⟩; refine ⟨_, rfl, ?_⟩; replace HC_ := am (Kd.C_below (by (with_reducible repeat (first | refine Kd.C_alloc ?_ _ | refine Kd.C_drewN ?_ _ | refine Kd.C_drew ?_)); exact HC_.out) hb); replace BK408 := bk BK408 hb; replace BK414 := bk BK414 hb; replace BK416 := bk BK416 hb; replace HB := bs hb; (try clear hb); obtain ⟨zig, zih, zii, zij, zik, zil⟩ := bc3 BK416; obtain ⟨zim, zin, zio, zip, ziq, zir, zis, zit, ziu, ziv⟩ := bc5 BK414) | ((with_reducible refine gate_callee (f := 9) rfl ?_); refine gL (some 89) Tryz.func9 #[.agg #[.string ((rd_T38 l0_2 x8_2).f0), .slice A415_1 ((rd_T38 l0_2 x8_2).f1).length c415_1, .slice A415_2 ((rd_T38 l0_2 x8_2).f2).length c415_2], .string ((rd_T34 l0_3 a1).f2), .slice A413_4 ((rd_T34 l0_3 a1).f4).length c413_4, .slice A418 t417.length c418] ?_; (with_reducible refine (paradigm_Underlying.calls _ ((rd_T38 l0_2 x8_2).f0) _ _ ((rd_T38 l0_2 x8_2).f1) _ _ ((rd_T38 l0_2 x8_2).f2) ((rd_T34 l0_3 a1).f2) _ _ ((rd_T34 l0_3 a1).f4) _ _ t417 t423 t424 _ (cq HR415_1) HC415_1.out (cq HR415_2) HC415_2.out (cq HR413_4) HC413_4.out (cd HC_) HLA.out A62.out).mono ?_); rintro e w112 ⟨rfl, hb⟩; refine ⟨_, rfl, ?_⟩; replace HC_ := am (Kd.C_below (by (with_reducible repeat (first | refine Kd.C_alloc ?_ _ | refine Kd.C_drewN ?_ _ | refine Kd.C_drew ?_)); exact HC_.out) hb); replace BK408 := bk BK408 hb; replace BK414 := bk BK414 hb; replace BK416 := bk BK416 hb; replace HB := bs hb; (try clear hb); obtain ⟨ziw, zix, ziy, ziz, zja, zjb, zjc, zjd⟩ := bc4 BK408) | ((with_reducible refine gate_callee (f := 10) rfl ?_); refine gL (some 98) Tryz.func10 #[.slice A0_0 l0_0.length c0_0, .slice A0_1 l0_1.length c0_1, .string t423] ?_; (with_reducible refine (rewrite_Cascade.calls _ _ _ l0_0 _ _ l0_1 t423 t425 t426 _ (cq HR0_0) HC0_0.out (cq HR0_1) HC0_1.out (Glob.below HG.out bq) A63.out).mono ?_); rintro e w114 ⟨rfl, hb⟩; refine ⟨_, rfl, ?_⟩; replace HC_ := am (Kd.C_below (by (with_reducible repeat (first | refine Kd.C_alloc ?_ _ | refine Kd.C_drewN ?_ _ | refine Kd.C_drew ?_)); exact HC_.out) hb); replace BK408 := bk BK408 hb; replace BK414 := bk BK414 hb; replace BK416 := bk BK416 hb; replace HB := bs hb; (try clear hb)))
     go_ret
     exact ⟨eq', bq⟩
   have c38b0 : decide (x8_2 < (l0_2.length : Int)) = false := decide_eq_false c38
   clear c38
   have hnb115 := NB408_414.out
   have hnc115 := NB414_408.out
   obtain ⟨zje, zjf, zjg, zjh, zji, zjj, zjk, zjl⟩ := bc4 BK408
   go_wp2
   go_ret
   exact ⟨eq', bq⟩
end Go.Proofs.YtcoialpohgfikaaGreatDoor.C
