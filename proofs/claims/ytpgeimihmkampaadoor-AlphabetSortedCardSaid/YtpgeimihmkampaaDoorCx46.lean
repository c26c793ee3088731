-- WRITTEN BY mkprint.py, a program of this session, over the kit's print of the given program. Not trusted: Lean checks it.
import Derived.Test.YtpgeimihmkampaaDoorCx0
import Derived.Test.YtpgeimihmkampaaDoorCx1
namespace Go.Proofs.YtpgeimihmkampaaDoor.C
open Go.RowKit Go.Proofs.YtpgeimihmkampaaDoorW.PrintWords Go.Proofs.YtpgeimihmkampaaDoorW.PrintLast Go.Proofs.YtpgeimihmkampaaDoorW.PrintMore
attribute [local go_sem] max2_int min2_int max_two min_two max_three min_three max_four min_four   -- for this text's walks alone
set_option linter.unusedVariables false
set_option linter.unusedSimpArgs false

/-! ### slices_insertionSortCmpFunc_string: function 56 -/
set_option maxHeartbeats 8000000 in
set_option maxRecDepth 100000 in
theorem ins_calls {cf : Tg → Tg → Int} (C : Stb.Cmp cf) {w : World} {g cap bw : Nat} {xs : List Tg} (h : Sb w g cap xs) (hc : Cmps w g bw xs cf) (a b : Nat) (hab : a ≤ b) (hb : b ≤ xs.length) (hs : xs.length ≤ 1000000)
    (ht : ∀ u v, a ≤ u → u < v → v < b → (Stb.el xs u).2 < (Stb.el xs v).2) :
    Calls Tryd.prog 56 #[.slice (some ⟨g, 0, none⟩) xs.length cap, .int .i64 a, .int .i64 b, .func (.func 52) #[] #[.pointer (some ⟨bw, 0, none⟩)]] w fun e w' => e = .returned (.tuple #[]) ∧ ∃ ys, Stb.Sh a b xs ys ∧ Stb.Asc cf Prod.snd ys a b ∧ Sb w' g cap ys ∧ w.grownBy w' (some g) := by
  obtain ⟨N, hN⟩ : ∃ N, xs.length = N := ⟨_, rfl⟩
  rw [hN] at hb hs ⊢
  have HN := Aside0.mk hN
  have HB0 := Aside0.mk h
  have HC := Aside0.mk hc
  have HT := Aside0.mk ht
  have HAB := Aside0.mk (And.intro hab (And.intro hb hs))
  have HCC := Aside0.mk C
  have hwa : wrap64 ((a : Int) + 1) = ((a + 1 : Nat) : Int) := by unfold wrap64; omega
  clear h hc ht hab hb hs hN C
  go_enter Tryd.func56, Tryd.ntmps56
  go_wp2
  go_loopg [8] (b + 1) (fun kq v5 w' => ∃ (i : Nat) (ys : List Tg), v5 = .int .i64 (i : Int) ∧ Aside0 (a < i ∧ b < i + kq ∧ i ≤ b + 1) ∧ Aside0 (Stb.Sh a (min i b) xs ys) ∧ Aside0 (Stb.Asc cf Prod.snd ys a (min i b)) ∧ Aside0 (Sb w' g cap ys) ∧ Aside0 (w.grownBy w' (some g)))
  case atStart => exact ⟨a + 1, xs, (by rw [hwa]), ⟨by have := HAB.out; omega⟩, ⟨Stb.Sh.refl _ _ _⟩, ⟨fun u v h1 h2 h3 => by omega⟩, HB0, ⟨sg_refl _ _⟩⟩
  case round =>
    clear HB0 hwa
    obtain ⟨i, ys, rfl, HI, HS, HA, HB, HG⟩ := hrel
    by_cases c1 : i < b
    · obtain ⟨k1, rfl⟩ : ∃ q, gk = q + 1 := ⟨gk - 1, by have := HI.out; omega⟩
      have hmin : min i b = i := by omega
      rw [hmin] at HS HA
      have HL := Aside0.mk (show ys.length = N by rw [HS.out.len, HN.out])
      have HNI := Aside0.mk c1
      have c1b : decide ((i : Int) < (b : Int)) = true := decide_eq_true (by omega)
      have c1n : decide (i < b) = true := decide_eq_true c1
      have HX := Aside0.mk (HC.out.grown HG.out HS.out.perm)
      have hst := HS.out
      clear c1 hmin hst
      go_wp2
      clear c1b c1n
      rename World => WO
      go_loopg [9] (i + 1) (fun kq v6 w' => ∃ (j n : Nat), v6 = .int .i64 (j : Int) ∧ Aside0 (a ≤ j ∧ j + n = i ∧ j < kq) ∧ Aside0 (∀ h, j ≤ h → h < i → cf (Stb.el ys i) (Stb.el ys h) < 0) ∧ Aside0 (Sb w' g cap (Stb.shr ys i n)) ∧ Aside0 (WO.grownBy w' (some g)))
      case atStart => exact ⟨i, 0, (by first | rfl | (simp; done)), ⟨by have := HI.out; omega⟩, ⟨fun h h1 h2 => by omega⟩, HB, ⟨sg_refl _ _⟩⟩
      case round =>
        clear HB
        obtain ⟨j, n, rfl, HJ, HH, HB, HG2⟩ := hrel
        have OUT := Aside0.mk (show (j = a ∨ ¬ cf (Stb.el ys i) (Stb.el ys (j - 1)) < 0) → Stb.Sh a (i + 1) xs (Stb.shr ys i n) ∧ Stb.Asc cf Prod.snd (Stb.shr ys i n) a (i + 1) from fun q =>
          Stb.ins_step HCC.out HS.out HA.out HNI.out (by rw [HN.out]; exact HAB.out.2.1) HT.out HJ.out.1 HJ.out.2.1 q HH.out)
        have hmin2 : min (i + 1) b = i + 1 := by have := HNI.out; omega
        have hwi : wrap64 ((i : Int) + 1) = ((i + 1 : Nat) : Int) := by have := HAB.out; have := HNI.out; unfold wrap64; omega
        by_cases d1 : a < j
        · obtain ⟨k2, rfl⟩ : ∃ q, gk = q + 1 := ⟨gk - 1, by have := HJ.out; omega⟩
          obtain ⟨p, hp⟩ : ∃ p, p + 1 = j := ⟨j - 1, by omega⟩
          have hjp : j - 1 = p := by omega
          rw [hjp] at OUT
          have HSL := Aside0.mk (Stb.shr_el ys i (by rw [HL.out]; have := HNI.out; have := HAB.out; omega) n (by have := HJ.out; omega))
          have hej : Stb.el (Stb.shr ys i n) j = Stb.el ys i := by rw [HSL.out j, if_neg (by have := HJ.out; omega), if_pos (by have := HJ.out; omega)]
          have hep : Stb.el (Stb.shr ys i n) p = Stb.el ys p := by rw [HSL.out p, if_pos (by have := HJ.out; omega)]
          have HLZ := Aside0.mk (show j < (Stb.shr ys i n).length ∧ p < (Stb.shr ys i n).length ∧ i < ys.length ∧ p < ys.length by rw [Stb.shr_len, HL.out]; have := HJ.out; have := HNI.out; have := HAB.out; omega)
          have cj := HB.out.cell HLZ.out.1
          have cp := HB.out.cell HLZ.out.2.1
          rw [hej] at cj
          rw [hep] at cp
          have HCM := Aside0.mk (fun W (hW : WO.grownBy W (some g)) => HX.out W hW (Stb.el ys i) (Stb.el ys p) (el_mem HLZ.out.2.2.1) (el_mem HLZ.out.2.2.2))
          have fj := HB.out.free j
          have fp := HB.out.free p
          have HBS := Aside0.mk (fun (W : World) (hW : Sb W g cap (Stb.shr ys i n)) => hW.swp HLZ.out.1 HLZ.out.2.1)
          rw [hej, hep] at HBS
          have HBT := Aside0.mk (fun (W : World) (hW : Sb W g cap (Stb.shr ys i n)) => And.intro ((hW.set HLZ.out.1 (Stb.el ys p)).cell (i := p) (by simpa using HLZ.out.2.1)) ((hW.set HLZ.out.1 (Stb.el ys p)).free p))
          have HJ2 := Aside0.mk (show a ≤ p ∧ p + (n + 1) = i ∧ p < k2 by have := HJ.out; omega)
          have HSE := Aside0.mk (show Stb.shr ys i (n + 1) = Stb.swp (Stb.shr ys i n) j p by rw [Stb.shr, show i - n = j by have := HJ.out; omega, hjp])
          have HHP := Aside0.mk (show cf (Stb.el ys i) (Stb.el ys p) < 0 → ∀ h, p ≤ h → h < i → cf (Stb.el ys i) (Stb.el ys h) < 0 from fun q h h1 h2 => by
            by_cases e : h = p
            · rw [e]; exact q
            · exact HH.out h (by omega) h2)
          have hwp : wrap64 ((j : Int) - 1) = (p : Int) := by have h1 := HAB.out; have h2 := HNI.out; have h3 := HJ.out; rw [sw_id (by omega) (by omega)]; omega
          have hwp2 : IntKind.i64.wrap ((j : Int) - 1) = (p : Int) := by have h1 := HAB.out; have h2 := HNI.out; have h3 := HJ.out; rw [sw_id2 (by omega) (by omega)]; omega
          have pj : (0 ≤ (j : Int)) = True := eq_true (by omega)
          have qj : ((j : Int) < (N : Int)) = True := eq_true (by have := HAB.out; have := HNI.out; have := HJ.out; omega)
          have pp : (0 ≤ (p : Int)) = True := eq_true (by omega)
          have qp : ((p : Int) < (N : Int)) = True := eq_true (by have := HAB.out; have := HNI.out; have := HJ.out; omega)
          have dj : decide ((a : Int) < (j : Int)) = true := decide_eq_true (by omega)
          have djn : decide (a < j) = true := decide_eq_true d1
          clear hej hep hp hjp d1
          obtain ⟨y, hy⟩ : ∃ y, cf (Stb.el ys i) (Stb.el ys p) = y := ⟨_, rfl⟩
          rw [hy] at HCM HHP OUT
          clear hy
          generalize (Stb.el ys i).1 = xi at *
          generalize (Stb.el ys p).1 = xp at *
          have c1b : decide (y < 0) = decide (y < 0) := rfl
          clear c1b
          by_cases hy : y < 0
          · have hyb : decide (y < 0) = true := decide_eq_true hy
            have HH2 := Aside0.mk (HHP.out hy)
            clear hy HH HHP OUT
            go_wp2_with fail
            go_region_held3 (fun w' => w'.cell? ⟨g, j, none⟩ = some (.string xi) ∧ w'.cell? ⟨g, p, none⟩ = some (.string xp) ∧ Aside0 (Below wr.heap.size wr w'))
              (first | assumption | exact ⟨by first | assumption | go_keep, by first | assumption | go_keep, ⟨(Below.refl _ _).drew⟩⟩)
              (first | (go_at_call 52; have hX := (And.right (And.right ‹_ ∧ _ ∧ Aside0 (Below wr.heap.size wr _)›)); (with_reducible refine (HCM.out _ (sg_below HG2.out hX.out)).mono ?_); rintro e w1 ⟨rfl, hb⟩; have hbb := below_step hX.out hb; have hnew := And.intro (pw_cell_below hbb cj) (And.intro (pw_cell_below hbb cp) (Aside0.mk hbb)); clear hb hbb))
            have hbb := (And.right (And.right ‹w1.cell? _ = _ ∧ _ ∧ Aside0 (Below wr.heap.size wr w1)›)).out
            have HB1 := Aside0.mk (HB.out.below hbb)
            have HG3 := Aside0.mk (sg_below HG2.out hbb)
            have cj1 := pw_cell_below hbb cj
            have cp1 := pw_cell_below hbb cp
            have fj1 := HB1.out.free j
            have fp1 := HB1.out.free p
            obtain ⟨ct, ft⟩ := HBT.out w1 HB1.out
            have HB2 := Aside0.mk (HBS.out w1 HB1.out).drew
            clear hX hbb cj cp fj fp HB HG2
            rename_i hHeld
            clear hHeld hnew
            go_wp2
            go_region
            go_wp2
            go_roundg k2
            case measure => omega
            case rel => exact ⟨p, n + 1, (by first | rfl | rw [hwp]), HJ2, HH2, ⟨HSE.out ▸ HB2.out⟩, ⟨sg_drew (sg_set (sg_set HG3.out _ _) _ _)⟩⟩
          · have hyb : decide (y < 0) = false := decide_eq_false hy
            have OUT2 := Aside0.mk (OUT.out (.inr hy))
            clear hy HH HHP OUT
            go_wp2_with fail
            go_region_held3 (fun w' => w'.cell? ⟨g, j, none⟩ = some (.string xi) ∧ w'.cell? ⟨g, p, none⟩ = some (.string xp) ∧ Aside0 (Below wr.heap.size wr w'))
              (first | assumption | exact ⟨by first | assumption | go_keep, by first | assumption | go_keep, ⟨(Below.refl _ _).drew⟩⟩)
              (first | (go_at_call 52; have hX := (And.right (And.right ‹_ ∧ _ ∧ Aside0 (Below wr.heap.size wr _)›)); (with_reducible refine (HCM.out _ (sg_below HG2.out hX.out)).mono ?_); rintro e w1 ⟨rfl, hb⟩; have hbb := below_step hX.out hb; have hnew := And.intro (pw_cell_below hbb cj) (And.intro (pw_cell_below hbb cp) (Aside0.mk hbb)); clear hb hbb))
            have hbb := (And.right (And.right ‹w1.cell? _ = _ ∧ _ ∧ Aside0 (Below wr.heap.size wr w1)›)).out
            have HB1 := Aside0.mk (HB.out.below hbb)
            have HG3 := Aside0.mk (sg_trans HG.out (sg_below HG2.out hbb))
            clear hX hbb cj cp fj fp HB HG2
            rename_i hHeld
            clear hHeld hnew
            go_wp2
            go_roundg k1
            case measure => omega
            case rel => exact ⟨i + 1, _, by rw [hwi], ⟨by have := HI.out; have := HNI.out; omega⟩, ⟨hmin2.symm ▸ OUT2.out.1⟩, ⟨hmin2.symm ▸ OUT2.out.2⟩, HB1, HG3⟩
        · have OUT2 := Aside0.mk (OUT.out (.inl (by have := HJ.out; omega)))
          have dj : decide ((a : Int) < (j : Int)) = false := decide_eq_false (by omega)
          have djn : decide (a < j) = false := decide_eq_false d1
          clear d1 OUT HH
          go_wp2_with fail
          go_region
          go_wp2
          go_roundg k1
          case measure => omega
          case rel => exact ⟨i + 1, _, by rw [hwi], ⟨by have := HI.out; have := HNI.out; omega⟩, ⟨hmin2.symm ▸ OUT2.out.1⟩, ⟨hmin2.symm ▸ OUT2.out.2⟩, ⟨HB.out.drew⟩, ⟨sg_drew (sg_trans HG.out HG2.out)⟩⟩
    · have c1b : decide ((i : Int) < (b : Int)) = false := decide_eq_false (by omega)
      have c1n : decide (i < b) = false := decide_eq_false c1
      have hmin : min i b = b := by omega
      rw [hmin] at HS HA
      clear c1 hmin
      go_wp2
      go_end0
      exact ⟨rfl, ys, HS.out, HA.out, HB.out, HG.out⟩
set_option maxHeartbeats 8000000 in
set_option maxRecDepth 100000 in
theorem sym_one {cf : Tg → Tg → Int} (C : Stb.Cmp cf) {w : World} {g cap bw : Nat} {xs : List Tg} (h : Sb w g cap xs) (hc : Cmps w g bw xs cf) (a b : Nat) (hab : a + 1 < b) (hb : b ≤ xs.length) (hs : xs.length ≤ 1000000)
    (hB : Stb.Asc cf Prod.snd xs (a + 1) b) (ht : Stb.Tags Prod.snd xs a (a + 1) b) :
    Calls Tryd.prog 57 #[.slice (some ⟨g, 0, none⟩) xs.length cap, .int .i64 a, .int .i64 ((a + 1 : Nat) : Int), .int .i64 b, .func (.func 52) #[] #[.pointer (some ⟨bw, 0, none⟩)]] w fun e w' => e = .returned (.tuple #[]) ∧ ∃ ys, Stb.Sh a b xs ys ∧ Stb.Asc cf Prod.snd ys a b ∧ Sb w' g cap ys ∧ w.grownBy w' (some g) := by
  obtain ⟨N, hN⟩ : ∃ N, xs.length = N := ⟨_, rfl⟩
  obtain ⟨m, hm⟩ : ∃ m, a + 1 = m := ⟨_, rfl⟩
  rw [hm] at hab hB ht ⊢
  rw [hN] at hb hs ⊢
  have HN := Aside0.mk hN
  have HM := Aside0.mk hm
  have HB0 := Aside0.mk h
  have HC := Aside0.mk hc
  have HT := Aside0.mk ht
  have HBA := Aside0.mk hB
  have HAB := Aside0.mk (And.intro hab (And.intro hb hs))
  have HCC := Aside0.mk C
  have hwd : wrap64 ((m : Int) - (a : Int)) = 1 := by rw [sw_id (by omega) (by omega)]; omega
  clear h hc ht hab hb hs hN C hm hB
  go_enter Tryd.func57, Tryd.ntmps57
  go_wp2
  go_loopg [10, 11] (b + 1) (fun kq v5 v6 w' => ∃ (i j : Nat), v5 = .int .i64 (i : Int) ∧ v6 = .int .i64 (j : Int) ∧ Aside0 (m ≤ i ∧ i ≤ j ∧ j ≤ b ∧ j < i + kq) ∧ Aside0 (∀ h, m ≤ h → h < i → cf (Stb.el xs h) (Stb.el xs a) < 0) ∧ Aside0 (∀ h, j ≤ h → h < b → ¬ cf (Stb.el xs h) (Stb.el xs a) < 0) ∧ Aside0 (Sb w' g cap xs) ∧ Aside0 (w.grownBy w' (some g)))
  case atStart => exact ⟨m, b, rfl, rfl, ⟨by have := HAB.out; omega⟩, ⟨fun h h1 h2 => by omega⟩, ⟨fun h h1 h2 => by omega⟩, HB0, ⟨sg_refl _ _⟩⟩
  case round =>
    clear HB0 hwd
    obtain ⟨i, j, rfl, rfl, HI, HLO, HHI, HB, HG⟩ := hrel
    by_cases c1 : i < j
    · obtain ⟨k1, rfl⟩ : ∃ q, gk = q + 1 := ⟨gk - 1, by have := HI.out; omega⟩
      have c1b : decide ((i : Int) < (j : Int)) = true := decide_eq_true (by omega)
      have c1n : decide (i < j) = true := decide_eq_true c1
      obtain ⟨h, hh⟩ : ∃ h, (i + j) / 2 = h := ⟨_, rfl⟩
      obtain ⟨hw1, hw2, hw3⟩ := sw_half hh (by have h1 := HI.out; have h2 := HAB.out; omega) (by have h1 := HI.out; have h2 := HAB.out; omega)
      have HH := Aside0.mk (show i ≤ h ∧ h < j by omega)
      have HLZ := Aside0.mk (show h < xs.length ∧ a < xs.length by rw [HN.out]; have h1 := HI.out; have h2 := HAB.out; have h3 := HM.out; have h4 := HH.out; omega)
      have ch := HB.out.cell HLZ.out.1
      have ca := HB.out.cell HLZ.out.2
      have HCM := Aside0.mk (fun W (hW : w.grownBy W (some g)) => HC.out W hW (Stb.el xs h) (Stb.el xs a) (el_mem HLZ.out.1) (el_mem HLZ.out.2))
      have UP := Aside0.mk (show cf (Stb.el xs h) (Stb.el xs a) < 0 → ∀ u, m ≤ u → u < h + 1 → cf (Stb.el xs u) (Stb.el xs a) < 0 from fun q u u1 u2 => Stb.asc_lt HCC.out HBA.out u1 (by omega) (by have h1 := HI.out; have h4 := HH.out; omega) q)
      have DN := Aside0.mk (show ¬ cf (Stb.el xs h) (Stb.el xs a) < 0 → ∀ u, h ≤ u → u < b → ¬ cf (Stb.el xs u) (Stb.el xs a) < 0 from fun q u u1 u2 => Stb.asc_ge HCC.out HBA.out (by have h1 := HI.out; have h4 := HH.out; omega) u1 u2 q)
      have hw4 : wrap64 ((h : Int) + 1) = ((h + 1 : Nat) : Int) := by have h1 := HI.out; have h2 := HAB.out; have h3 := HH.out; rw [sw_id (by omega) (by omega)]; omega
      have pj : (0 ≤ (h : Int)) = True := eq_true (by omega)
      have qj : ((h : Int) < (N : Int)) = True := eq_true (by have h1 := HI.out; have h2 := HAB.out; have h3 := HH.out; omega)
      have pa : (0 ≤ (a : Int)) = True := eq_true (by omega)
      have qa : ((a : Int) < (N : Int)) = True := eq_true (by have h2 := HAB.out; have h3 := HM.out; omega)
      have HI2 := Aside0.mk (show (m ≤ h + 1 ∧ h + 1 ≤ j ∧ j ≤ b ∧ j < h + 1 + k1) ∧ (m ≤ i ∧ i ≤ h ∧ h ≤ b ∧ h < i + k1) by have h1 := HI.out; have h4 := HH.out; omega)
      clear hh c1
      obtain ⟨y, hy⟩ : ∃ y, cf (Stb.el xs h) (Stb.el xs a) = y := ⟨_, rfl⟩
      rw [hy] at HCM UP DN
      clear hy
      generalize (Stb.el xs h).1 = xh at *
      generalize (Stb.el xs a).1 = xa at *
      by_cases hy : y < 0
      · have hyb : decide (y < 0) = true := decide_eq_true hy
        have U2 := Aside0.mk (UP.out hy)
        clear hy UP DN HLO
        go_wp2_with fail
        go_region_held3 (fun w' => w'.cell? ⟨g, h, none⟩ = some (.string xh) ∧ w'.cell? ⟨g, a, none⟩ = some (.string xa) ∧ Aside0 (Below wr.heap.size wr w'))
          (first | assumption | exact ⟨by first | assumption | go_keep, by first | assumption | go_keep, ⟨(Below.refl _ _).drew⟩⟩)
          (first | (go_at_call 52; have hX := (And.right (And.right ‹_ ∧ _ ∧ Aside0 (Below wr.heap.size wr _)›)); (with_reducible refine (HCM.out _ (sg_below HG.out hX.out)).mono ?_); rintro e w1 ⟨rfl, hb⟩; have hbb := below_step hX.out hb; have hnew := And.intro (pw_cell_below hbb ch) (And.intro (pw_cell_below hbb ca) (Aside0.mk hbb)); clear hb hbb))
        have hbb := (And.right (And.right ‹w1.cell? _ = _ ∧ _ ∧ Aside0 (Below wr.heap.size wr w1)›)).out
        have HB1 := Aside0.mk (HB.out.below hbb)
        have HG3 := Aside0.mk (sg_below HG.out hbb)
        clear hX hbb ch ca HB HG
        rename_i hHeld
        clear hHeld hnew
        go_wp2
        go_roundg k1
        case measure => omega
        case rel => exact ⟨h + 1, j, (by first | rfl | rw [hw4]), rfl, ⟨HI2.out.1⟩, U2, HHI, HB1, HG3⟩
      · have hyb : decide (y < 0) = false := decide_eq_false hy
        have U2 := Aside0.mk (DN.out hy)
        clear hy UP DN HHI
        go_wp2_with fail
        go_region_held3 (fun w' => w'.cell? ⟨g, h, none⟩ = some (.string xh) ∧ w'.cell? ⟨g, a, none⟩ = some (.string xa) ∧ Aside0 (Below wr.heap.size wr w'))
          (first | assumption | exact ⟨by first | assumption | go_keep, by first | assumption | go_keep, ⟨(Below.refl _ _).drew⟩⟩)
          (first | (go_at_call 52; have hX := (And.right (And.right ‹_ ∧ _ ∧ Aside0 (Below wr.heap.size wr _)›)); (with_reducible refine (HCM.out _ (sg_below HG.out hX.out)).mono ?_); rintro e w1 ⟨rfl, hb⟩; have hbb := below_step hX.out hb; have hnew := And.intro (pw_cell_below hbb ch) (And.intro (pw_cell_below hbb ca) (Aside0.mk hbb)); clear hb hbb))
        have hbb := (And.right (And.right ‹w1.cell? _ = _ ∧ _ ∧ Aside0 (Below wr.heap.size wr w1)›)).out
        have HB1 := Aside0.mk (HB.out.below hbb)
        have HG3 := Aside0.mk (sg_below HG.out hbb)
        clear hX hbb ch ca HB HG
        rename_i hHeld
        clear hHeld hnew
        go_wp2
        go_roundg k1
        case measure => omega
        case rel => exact ⟨i, h, rfl, rfl, ⟨HI2.out.2⟩, HLO, U2, HB1, HG3⟩
    · have c1b : decide ((i : Int) < (j : Int)) = false := decide_eq_false (by omega)
      have c1n : decide (i < j) = false := decide_eq_false c1
      obtain rfl : i = j := by have h1 := HI.out; omega
      obtain ⟨n, hn⟩ : ∃ n, m + n = i := ⟨i - m, by have h1 := HI.out; omega⟩
      have HNN := Aside0.mk hn
      have DONE := Aside0.mk (show Stb.Asc cf Prod.snd (Stb.shl xs a n) a b ∧ Stb.Sh a b xs (Stb.shl xs a n) by
        have h1 := HI.out
        have h2 := HAB.out
        have h3 := HM.out
        have h4 := HN.out
        subst h3
        subst hn
        exact ⟨Stb.merge_one_left HCC.out HBA.out HT.out (by omega) (by omega) HLO.out HHI.out, Stb.shl_sh xs a b (by omega) n (by omega)⟩)
      have hwi : wrap64 ((i : Int) - 1) = ((a + n : Nat) : Int) := by have h1 := HI.out; have h2 := HAB.out; have h3 := HM.out; rw [sw_id (by omega) (by omega)]; omega
      obtain ⟨e, he⟩ : ∃ e, a + n = e := ⟨_, rfl⟩
      rw [he] at hwi
      have HE := Aside0.mk he
      have HAI := Aside0.mk (show e < b by have h1 := HI.out; have h3 := HM.out; omega)
      clear c1 HLO HHI hn he
      go_wp2_with fail
      clear c1b c1n
      rename World => WO
      go_loopg [13] (n + 1) (fun kq v8 w' => ∃ (t : Nat), v8 = .int .i64 ((a + t : Nat) : Int) ∧ Aside0 (t ≤ n ∧ n < t + kq) ∧ Aside0 (Sb w' g cap (Stb.shl xs a t)) ∧ Aside0 (w.grownBy w' (some g)))
      case atStart => exact ⟨0, rfl, ⟨by omega⟩, HB, HG⟩
      case round =>
        clear HB HG
        obtain ⟨t, rfl, HI3, HB, HG⟩ := hrel
        obtain ⟨p, hp⟩ : ∃ p, a + t = p := ⟨_, rfl⟩
        rw [hp]
        by_cases c1 : t < n
        · obtain ⟨k2, rfl⟩ : ∃ q, gk = q + 1 := ⟨gk - 1, by have h1 := HI3.out; omega⟩
          obtain ⟨q, hq⟩ : ∃ q, p + 1 = q := ⟨_, rfl⟩
          have hwq : wrap64 ((p : Int) + 1) = (q : Int) := by have h1 := HI3.out; have h2 := HAB.out; have h3 := HE.out; have h4 := HAI.out; rw [sw_id (by omega) (by omega)]; omega
          have hwq2 : IntKind.i64.wrap ((p : Int) + 1) = (q : Int) := by have h1 := HI3.out; have h2 := HAB.out; have h3 := HE.out; have h4 := HAI.out; rw [sw_id2 (by omega) (by omega)]; omega
          have HL := Aside0.mk (show p < (Stb.shl xs a t).length ∧ q < (Stb.shl xs a t).length by rw [Stb.shl_len, HN.out]; have h2 := HAB.out; have h3 := HE.out; have h4 := HAI.out; omega)
          have cp := HB.out.cell HL.out.1
          have cq := HB.out.cell HL.out.2
          have fp := HB.out.free p
          have fq := HB.out.free q
          have HB1 := Aside0.mk (HB.out.set HL.out.1 (Stb.el (Stb.shl xs a t) q))
          have cq1 := HB1.out.cell (i := q) (by simpa using HL.out.2)
          have fq1 := HB1.out.free q
          have HS := Aside0.mk (HB.out.swp HL.out.1 HL.out.2).drew
          have HSE := Aside0.mk (show Stb.shl xs a (t + 1) = Stb.swp (Stb.shl xs a t) p q by rw [Stb.shl, hp, hq])
          have pp : (0 ≤ (p : Int)) = True := eq_true (by omega)
          have qp : ((p : Int) < (N : Int)) = True := eq_true (by have h2 := HAB.out; have h3 := HE.out; have h4 := HAI.out; omega)
          have pq : (0 ≤ (q : Int)) = True := eq_true (by omega)
          have qq : ((q : Int) < (N : Int)) = True := eq_true (by have h2 := HAB.out; have h3 := HE.out; have h4 := HAI.out; omega)
          have c1b : decide ((p : Int) < (e : Int)) = true := decide_eq_true (by have h3 := HE.out; omega)
          have c1n : decide (p < e) = true := decide_eq_true (by have h3 := HE.out; omega)
          have HI4 := Aside0.mk (show t + 1 ≤ n ∧ n < t + 1 + k2 by have h1 := HI3.out; omega)
          have HPQ := Aside0.mk (show q = a + (t + 1) by omega)
          generalize (Stb.el (Stb.shl xs a t) p).1 = xp at *
          generalize (Stb.el (Stb.shl xs a t) q).1 = xq at *
          clear hp hq c1 HB1
          go_wp2_with fail
          go_region
          go_wp2
          go_roundg k2
          case measure => omega
          case rel => exact ⟨t + 1, by first | (rw [← HPQ.out]; done) | (rw [← HPQ.out, hwq]; done), HI4, ⟨HSE.out ▸ HS.out⟩, ⟨sg_drew (sg_set (sg_set HG.out _ _) _ _)⟩⟩
        · have c1b : decide ((p : Int) < (e : Int)) = false := decide_eq_false (by have h3 := HE.out; omega)
          have c1n : decide (p < e) = false := decide_eq_false (by have h3 := HE.out; omega)
          obtain rfl : t = n := by have h1 := HI3.out; omega
          clear c1 hp
          go_wp2
          refine bodyPost_ret (results_none rfl _ _ _) rfl ?_
          exact ⟨rfl, _, DONE.out.2, DONE.out.1, HB.out, HG.out⟩
set_option maxHeartbeats 8000000 in
set_option maxRecDepth 100000 in
theorem sym_two {cf : Tg → Tg → Int} (C : Stb.Cmp cf) {w : World} {g cap bw : Nat} {xs : List Tg} (h : Sb w g cap xs) (hc : Cmps w g bw xs cf) (a m : Nat) (hab : a + 1 < m) (hb : m < xs.length) (hs : xs.length ≤ 1000000)
    (hB : Stb.Asc cf Prod.snd xs a m) (ht : Stb.Tags Prod.snd xs a m (m + 1)) :
    Calls Tryd.prog 57 #[.slice (some ⟨g, 0, none⟩) xs.length cap, .int .i64 a, .int .i64 m, .int .i64 ((m + 1 : Nat) : Int), .func (.func 52) #[] #[.pointer (some ⟨bw, 0, none⟩)]] w fun e w' => e = .returned (.tuple #[]) ∧ ∃ ys, Stb.Sh a (m + 1) xs ys ∧ Stb.Asc cf Prod.snd ys a (m + 1) ∧ Sb w' g cap ys ∧ w.grownBy w' (some g) := by
  obtain ⟨N, hN⟩ : ∃ N, xs.length = N := ⟨_, rfl⟩
  obtain ⟨b, hm⟩ : ∃ b, m + 1 = b := ⟨_, rfl⟩
  rw [hm] at ht ⊢
  rw [hN] at hb hs ⊢
  have HN := Aside0.mk hN
  have HM := Aside0.mk hm
  have HB0 := Aside0.mk h
  have HC := Aside0.mk hc
  have HT := Aside0.mk ht
  have HBA := Aside0.mk hB
  have HAB := Aside0.mk (And.intro hab (And.intro hb hs))
  have HCC := Aside0.mk C
  obtain ⟨d, hd⟩ : ∃ d, a + d = m := ⟨m - a, by omega⟩
  have hwd : wrap64 ((m : Int) - (a : Int)) = (d : Int) := by rw [sw_id (by omega) (by omega)]; omega
  have hwe : wrap64 ((b : Int) - (m : Int)) = 1 := by rw [sw_id (by omega) (by omega)]; omega
  have hd1 : ((d : Int) == 1) = false := by simp; omega
  have hd2 : (d == 1) = false := by simp; omega
  clear h hc ht hab hb hs hN C hm hB hd
  go_enter Tryd.func57, Tryd.ntmps57
  go_wp2
  go_loopg [14, 15] (m + 1) (fun kq v5 v6 w' => ∃ (i j : Nat), v5 = .int .i64 (i : Int) ∧ v6 = .int .i64 (j : Int) ∧ Aside0 (a ≤ i ∧ i ≤ j ∧ j ≤ m ∧ j < i + kq) ∧ Aside0 (∀ h, a ≤ h → h < i → ¬ cf (Stb.el xs m) (Stb.el xs h) < 0) ∧ Aside0 (∀ h, j ≤ h → h < m → cf (Stb.el xs m) (Stb.el xs h) < 0) ∧ Aside0 (Sb w' g cap xs) ∧ Aside0 (w.grownBy w' (some g)))
  case atStart => exact ⟨a, m, rfl, rfl, ⟨by have := HAB.out; omega⟩, ⟨fun h h1 h2 => by omega⟩, ⟨fun h h1 h2 => by omega⟩, HB0, ⟨sg_refl _ _⟩⟩
  case round =>
    clear HB0 hwd hwe hd1 hd2
    obtain ⟨i, j, rfl, rfl, HI, HLO, HHI, HB, HG⟩ := hrel
    by_cases c1 : i < j
    · obtain ⟨k1, rfl⟩ : ∃ q, gk = q + 1 := ⟨gk - 1, by have := HI.out; omega⟩
      have c1b : decide ((i : Int) < (j : Int)) = true := decide_eq_true (by omega)
      have c1n : decide (i < j) = true := decide_eq_true c1
      obtain ⟨h, hh⟩ : ∃ h, (i + j) / 2 = h := ⟨_, rfl⟩
      obtain ⟨hw1, hw2, hw3⟩ := sw_half hh (by have h1 := HI.out; have h2 := HAB.out; omega) (by have h1 := HI.out; have h2 := HAB.out; omega)
      have HH := Aside0.mk (show i ≤ h ∧ h < j by omega)
      have HLZ := Aside0.mk (show h < xs.length ∧ m < xs.length by rw [HN.out]; have h1 := HI.out; have h2 := HAB.out; have h3 := HM.out; have h4 := HH.out; omega)
      have ch := HB.out.cell HLZ.out.1
      have ca := HB.out.cell HLZ.out.2
      have HCM := Aside0.mk (fun W (hW : w.grownBy W (some g)) => HC.out W hW (Stb.el xs m) (Stb.el xs h) (el_mem HLZ.out.2) (el_mem HLZ.out.1))
      have UP := Aside0.mk (show ¬ cf (Stb.el xs m) (Stb.el xs h) < 0 → ∀ u, a ≤ u → u < h + 1 → ¬ cf (Stb.el xs m) (Stb.el xs u) < 0 from fun q u u1 u2 => Stb.asc_le HCC.out HBA.out u1 (by omega) (by have h1 := HI.out; have h4 := HH.out; omega) q)
      have DN := Aside0.mk (show cf (Stb.el xs m) (Stb.el xs h) < 0 → ∀ u, h ≤ u → u < m → cf (Stb.el xs m) (Stb.el xs u) < 0 from fun q u u1 u2 => Stb.asc_gt HCC.out HBA.out (by have h1 := HI.out; have h4 := HH.out; omega) u1 u2 q)
      have hw4 : wrap64 ((h : Int) + 1) = ((h + 1 : Nat) : Int) := by have h1 := HI.out; have h2 := HAB.out; have h3 := HH.out; rw [sw_id (by omega) (by omega)]; omega
      have pj : (0 ≤ (h : Int)) = True := eq_true (by omega)
      have qj : ((h : Int) < (N : Int)) = True := eq_true (by have h1 := HI.out; have h2 := HAB.out; have h3 := HH.out; omega)
      have pa : (0 ≤ (m : Int)) = True := eq_true (by omega)
      have qa : ((m : Int) < (N : Int)) = True := eq_true (by have h2 := HAB.out; have h3 := HM.out; omega)
      have HI2 := Aside0.mk (show (a ≤ h + 1 ∧ h + 1 ≤ j ∧ j ≤ m ∧ j < h + 1 + k1) ∧ (a ≤ i ∧ i ≤ h ∧ h ≤ m ∧ h < i + k1) by have h1 := HI.out; have h4 := HH.out; omega)
      clear hh c1
      obtain ⟨y, hy⟩ : ∃ y, cf (Stb.el xs m) (Stb.el xs h) = y := ⟨_, rfl⟩
      rw [hy] at HCM UP DN
      clear hy
      generalize (Stb.el xs h).1 = xh at *
      generalize (Stb.el xs m).1 = xa at *
      by_cases hy : y < 0
      · have hyb : decide (y < 0) = true := decide_eq_true hy
        have U2 := Aside0.mk (DN.out hy)
        clear hy UP DN HHI
        go_wp2_with fail
        go_region_held3 (fun w' => w'.cell? ⟨g, h, none⟩ = some (.string xh) ∧ w'.cell? ⟨g, m, none⟩ = some (.string xa) ∧ Aside0 (Below wr.heap.size wr w'))
          (first | assumption | exact ⟨by first | assumption | go_keep, by first | assumption | go_keep, ⟨(Below.refl _ _).drew⟩⟩)
          (first | (go_at_call 52; have hX := (And.right (And.right ‹_ ∧ _ ∧ Aside0 (Below wr.heap.size wr _)›)); (with_reducible refine (HCM.out _ (sg_below HG.out hX.out)).mono ?_); rintro e w1 ⟨rfl, hb⟩; have hbb := below_step hX.out hb; have hnew := And.intro (pw_cell_below hbb ch) (And.intro (pw_cell_below hbb ca) (Aside0.mk hbb)); clear hb hbb))
        have hbb := (And.right (And.right ‹w1.cell? _ = _ ∧ _ ∧ Aside0 (Below wr.heap.size wr w1)›)).out
        have HB1 := Aside0.mk (HB.out.below hbb)
        have HG3 := Aside0.mk (sg_below HG.out hbb)
        clear hX hbb ch ca HB HG
        rename_i hHeld
        clear hHeld hnew
        go_wp2
        go_roundg k1
        case measure => omega
        case rel => exact ⟨i, h, rfl, rfl, ⟨HI2.out.2⟩, HLO, U2, HB1, HG3⟩
      · have hyb : decide (y < 0) = false := decide_eq_false hy
        have U2 := Aside0.mk (UP.out hy)
        clear hy UP DN HLO
        go_wp2_with fail
        go_region_held3 (fun w' => w'.cell? ⟨g, h, none⟩ = some (.string xh) ∧ w'.cell? ⟨g, m, none⟩ = some (.string xa) ∧ Aside0 (Below wr.heap.size wr w'))
          (first | assumption | exact ⟨by first | assumption | go_keep, by first | assumption | go_keep, ⟨(Below.refl _ _).drew⟩⟩)
          (first | (go_at_call 52; have hX := (And.right (And.right ‹_ ∧ _ ∧ Aside0 (Below wr.heap.size wr _)›)); (with_reducible refine (HCM.out _ (sg_below HG.out hX.out)).mono ?_); rintro e w1 ⟨rfl, hb⟩; have hbb := below_step hX.out hb; have hnew := And.intro (pw_cell_below hbb ch) (And.intro (pw_cell_below hbb ca) (Aside0.mk hbb)); clear hb hbb))
        have hbb := (And.right (And.right ‹w1.cell? _ = _ ∧ _ ∧ Aside0 (Below wr.heap.size wr w1)›)).out
        have HB1 := Aside0.mk (HB.out.below hbb)
        have HG3 := Aside0.mk (sg_below HG.out hbb)
        clear hX hbb ch ca HB HG
        rename_i hHeld
        clear hHeld hnew
        go_wp2
        go_roundg k1
        case measure => omega
        case rel => exact ⟨h + 1, j, (by first | rfl | rw [hw4]), rfl, ⟨HI2.out.1⟩, U2, HHI, HB1, HG3⟩
    · have c1b : decide ((i : Int) < (j : Int)) = false := decide_eq_false (by omega)
      have c1n : decide (i < j) = false := decide_eq_false c1
      obtain rfl : i = j := by have h1 := HI.out; omega
      obtain ⟨n, hn⟩ : ∃ n, i + n = m := ⟨m - i, by have h1 := HI.out; omega⟩
      have HNN := Aside0.mk hn
      have DONE := Aside0.mk (show Stb.Asc cf Prod.snd (Stb.shr xs m n) a b ∧ Stb.Sh a b xs (Stb.shr xs m n) by
        have h1 := HI.out
        have h2 := HAB.out
        have h3 := HM.out
        have h4 := HN.out
        subst h3
        subst hn
        exact ⟨Stb.merge_one_right HCC.out HBA.out HT.out (by omega) (by omega) HLO.out HHI.out, Stb.shr_sh xs a (i + n) (by omega) n (by omega)⟩)
      have HAI := Aside0.mk (show i ≤ m by have h1 := HI.out; omega)
      clear c1 HLO HHI hn HI
      go_wp2_with fail
      clear c1b c1n
      rename World => WO
      go_loopg [17] (n + 1) (fun kq v8 w' => ∃ (t p : Nat), v8 = .int .i64 (p : Int) ∧ Aside0 (t ≤ n ∧ n < t + kq ∧ p + t = m) ∧ Aside0 (Sb w' g cap (Stb.shr xs m t)) ∧ Aside0 (w.grownBy w' (some g)))
      case atStart => exact ⟨0, m, rfl, ⟨by omega⟩, HB, HG⟩
      case round =>
        clear HB HG
        obtain ⟨t, p, rfl, HI3, HB, HG⟩ := hrel
        by_cases c1 : t < n
        · obtain ⟨k2, rfl⟩ : ∃ q, gk = q + 1 := ⟨gk - 1, by have h1 := HI3.out; omega⟩
          obtain ⟨q, hq⟩ : ∃ q, q + 1 = p := ⟨p - 1, by have h1 := HI3.out; have h2 := HNN.out; omega⟩
          have hwq : wrap64 ((p : Int) - 1) = (q : Int) := by have h1 := HI3.out; have h2 := HAB.out; rw [sw_id (by omega) (by omega)]; omega
          have hwq2 : IntKind.i64.wrap ((p : Int) - 1) = (q : Int) := by have h1 := HI3.out; have h2 := HAB.out; rw [sw_id2 (by omega) (by omega)]; omega
          have HL := Aside0.mk (show p < (Stb.shr xs m t).length ∧ q < (Stb.shr xs m t).length by rw [Stb.shr_len, HN.out]; have h1 := HI3.out; have h2 := HAB.out; omega)
          have cp := HB.out.cell HL.out.1
          have cq := HB.out.cell HL.out.2
          have fp := HB.out.free p
          have fq := HB.out.free q
          have HB1 := Aside0.mk (HB.out.set HL.out.1 (Stb.el (Stb.shr xs m t) q))
          have cq1 := HB1.out.cell (i := q) (by simpa using HL.out.2)
          have fq1 := HB1.out.free q
          have HS := Aside0.mk (HB.out.swp HL.out.1 HL.out.2).drew
          have HSE := Aside0.mk (show Stb.shr xs m (t + 1) = Stb.swp (Stb.shr xs m t) p q by rw [Stb.shr, show m - t = p by have h1 := HI3.out; omega, show p - 1 = q by omega])
          have pp : (0 ≤ (p : Int)) = True := eq_true (by omega)
          have qp : ((p : Int) < (N : Int)) = True := eq_true (by have h1 := HI3.out; have h2 := HAB.out; omega)
          have pq : (0 ≤ (q : Int)) = True := eq_true (by omega)
          have qq : ((q : Int) < (N : Int)) = True := eq_true (by have h1 := HI3.out; have h2 := HAB.out; omega)
          have c1b : decide ((i : Int) < (p : Int)) = true := decide_eq_true (by have h1 := HI3.out; have h3 := HNN.out; omega)
          have c1n : decide (i < p) = true := decide_eq_true (by have h1 := HI3.out; have h3 := HNN.out; omega)
          have HI4 := Aside0.mk (show t + 1 ≤ n ∧ n < t + 1 + k2 ∧ q + (t + 1) = m by have h1 := HI3.out; omega)
          generalize (Stb.el (Stb.shr xs m t) p).1 = xp at *
          generalize (Stb.el (Stb.shr xs m t) q).1 = xq at *
          clear hq c1 HB1
          go_wp2_with fail
          go_region
          go_wp2
          go_roundg k2
          case measure => omega
          case rel => exact ⟨t + 1, q, by first | rfl | rw [hwq], HI4, ⟨HSE.out ▸ HS.out⟩, ⟨sg_drew (sg_set (sg_set HG.out _ _) _ _)⟩⟩
        · have c1b : decide ((i : Int) < (p : Int)) = false := decide_eq_false (by have h1 := HI3.out; have h3 := HNN.out; omega)
          have c1n : decide (i < p) = false := decide_eq_false (by have h1 := HI3.out; have h3 := HNN.out; omega)
          obtain rfl : t = n := by have h1 := HI3.out; omega
          clear c1
          go_wp2
          refine bodyPost_ret (results_none rfl _ _ _) rfl ?_
          exact ⟨rfl, _, DONE.out.2, DONE.out.1, HB.out, HG.out⟩

end Go.Proofs.YtpgeimihmkampaaDoor.C
