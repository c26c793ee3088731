-- WRITTEN BY mkprint.py, a program of this session, over the kit's print of the given program. Not trusted: Lean checks it.
import Derived.Test.YtpgeimihmkampaaDoorCx0
import Derived.Test.YtpgeimihmkampaaDoorCx1
import Derived.Test.YtpgeimihmkampaaDoorCx46
import Derived.Test.YtpgeimihmkampaaDoorCx47
namespace Go.Proofs.YtpgeimihmkampaaDoor.C
open Go.RowKit Go.Proofs.YtpgeimihmkampaaDoorW.PrintWords Go.Proofs.YtpgeimihmkampaaDoorW.PrintLast Go.Proofs.YtpgeimihmkampaaDoorW.PrintMore
attribute [local go_sem] max2_int min2_int max_two min_two max_three min_three max_four min_four   -- for this text's walks alone
set_option linter.unusedVariables false
set_option linter.unusedSimpArgs false

/-! ### slices_symMergeCmpFunc_string: function 57 -/
set_option maxHeartbeats 32000000 in
set_option maxRecDepth 100000 in
theorem sym_gen {cf : Tg → Tg → Int} (C : Stb.Cmp cf) {w : World} {g cap bw : Nat} {xs : List Tg} (h : Sb w g cap xs) (hc : Cmps w g bw xs cf) (a m b : Nat) (ham : a + 1 < m) (hmb : m + 1 < b) (hb : b ≤ xs.length) (hs : xs.length ≤ 1000000)
    (hA : Stb.Asc cf Prod.snd xs a m) (hB : Stb.Asc cf Prod.snd xs m b) (ht : Stb.Tags Prod.snd xs a m b)
    (IH : ∀ {W : World} {ys : List Tg}, Sb W g cap ys → Cmps W g bw ys cf → ∀ u v t : Nat, u < v → v < t → t ≤ ys.length → ys.length ≤ 1000000 → t - u < b - a → Stb.Asc cf Prod.snd ys u v → Stb.Asc cf Prod.snd ys v t → Stb.Tags Prod.snd ys u v t →
      Calls Tryd.prog 57 #[.slice (some ⟨g, 0, none⟩) ys.length cap, .int .i64 u, .int .i64 v, .int .i64 t, .func (.func 52) #[] #[.pointer (some ⟨bw, 0, none⟩)]] W fun e w' => e = .returned (.tuple #[]) ∧ ∃ zs, Stb.Sh u t ys zs ∧ Stb.Asc cf Prod.snd zs u t ∧ Sb w' g cap zs ∧ W.grownBy w' (some g)) :
    Calls Tryd.prog 57 #[.slice (some ⟨g, 0, none⟩) xs.length cap, .int .i64 a, .int .i64 m, .int .i64 b, .func (.func 52) #[] #[.pointer (some ⟨bw, 0, none⟩)]] w fun e w' => e = .returned (.tuple #[]) ∧ ∃ ys, Stb.Sh a b xs ys ∧ Stb.Asc cf Prod.snd ys a b ∧ Sb w' g cap ys ∧ w.grownBy w' (some g) := by
  obtain ⟨N, hN⟩ : ∃ N, xs.length = N := ⟨_, rfl⟩
  rw [hN] at hb hs ⊢
  have HN := Aside0.mk hN
  have HB0 := Aside0.mk h
  have HC := Aside0.mk hc
  have HT := Aside0.mk ht
  have HA := Aside0.mk hA
  have HBA := Aside0.mk hB
  have HCC := Aside0.mk C
  have HIH := Aside0.mk @IH
  obtain ⟨d1, hd1⟩ : ∃ d, a + d = m := ⟨m - a, by omega⟩
  obtain ⟨d2, hd2⟩ : ∃ d, m + d = b := ⟨b - m, by omega⟩
  obtain ⟨mid, hmid⟩ : ∃ q, (a + b) / 2 = q := ⟨_, rfl⟩
  obtain ⟨n, hn⟩ : ∃ q, mid + m = q := ⟨_, rfl⟩
  obtain ⟨p, hp⟩ : ∃ q, q + 1 = n := ⟨n - 1, by omega⟩
  have HAB := Aside0.mk (show a + 1 < m ∧ m + 1 < b ∧ b ≤ N ∧ N ≤ 1000000 ∧ mid = (a + b) / 2 ∧ mid + m = n ∧ p + 1 = n ∧ a < mid ∧ mid < b by omega)
  have f3 : ((d1 : Int) == 1) = false := by simp; omega
  have f4 : ((d2 : Int) == 1) = false := by simp; omega
  have f5 : (d1 == 1) = false := by simp; omega
  have f6 : (d2 == 1) = false := by simp; omega
  have FF := Aside0.mk (show (wrap64 ((m : Int) - (a : Int)) = (d1 : Int) ∧ wrap64 ((b : Int) - (m : Int)) = (d2 : Int)) ∧ (wrap64 ((a : Int) + (b : Int)) = (a : Int) + (b : Int) ∧ IntKind.u64.wrap ((a : Int) + (b : Int)) / 2 = (mid : Int) ∧ wrap64 (mid : Int) = (mid : Int)) ∧ wrap64 ((mid : Int) + (m : Int)) = (n : Int) ∧ wrap64 ((n : Int) - 1) = (p : Int) from
    ⟨⟨by rw [sw_id (by omega) (by omega)]; omega, by rw [sw_id (by omega) (by omega)]; omega⟩, sw_half hmid (by omega) (by omega), by rw [sw_id (by omega) (by omega)]; omega, by rw [sw_id (by omega) (by omega)]; omega⟩)
  clear h hc ham hmb hb hs hA hB ht hN C hd1 hd2 hmid hn hp IH
  by_cases c0 : mid < m
  · obtain ⟨s0, hs0⟩ : ∃ q, q + b = n := ⟨n - b, by have h1 := HAB.out; omega⟩
    have HS0 := Aside0.mk (show (m > mid ∧ s0 + b = mid + m ∧ mid = mid) ∨ (m ≤ mid ∧ s0 = a ∧ mid = m) by have h1 := HAB.out; omega)
    have HSR := Aside0.mk (show a ≤ s0 ∧ s0 ≤ mid ∧ mid ≤ m ∧ mid ≤ mid ∧ n ≤ b + s0 by have h1 := HAB.out; omega)
    have HST := Aside0.mk (show s0 ≤ s0 ∧ s0 ≤ mid ∧ mid ≤ mid ∧ mid < s0 + (b + 1) by have h1 := HAB.out; have h2 := HSR.out; omega)
    have g1 : decide ((mid : Int) < (m : Int)) = true := decide_eq_true (by omega)
    have g2 : decide (mid < m) = true := decide_eq_true c0
    have fc : wrap64 ((n : Int) - (b : Int)) = (s0 : Int) := by have h1 := HAB.out; rw [sw_id (by omega) (by omega)]; omega
    obtain ⟨⟨f1, f2⟩, ⟨f7, f8, f9⟩, fa, fb⟩ := FF.out
    clear hs0 c0
    go_enter Tryd.func57, Tryd.ntmps57
    go_wp2
    go_loopg [20, 21] (b + 1) (fun kq v20 v21 w' => ∃ (s r : Nat), v20 = .int .i64 (s : Int) ∧ v21 = .int .i64 (r : Int) ∧ Aside0 (s0 ≤ s ∧ s ≤ r ∧ r ≤ mid ∧ r < s + kq) ∧ Aside0 (∀ c, s0 ≤ c → c < s → ¬ cf (Stb.el xs (p - c)) (Stb.el xs c) < 0) ∧ Aside0 (∀ c, r ≤ c → c < mid → cf (Stb.el xs (p - c)) (Stb.el xs c) < 0) ∧ Aside0 (Sb w' g cap xs) ∧ Aside0 (w.grownBy w' (some g)))
    case atStart => exact ⟨s0, mid, rfl, rfl, HST, ⟨fun h h1 h2 => absurd h2 (Nat.not_lt.2 h1)⟩, ⟨fun h h1 h2 => absurd h2 (Nat.not_lt.2 h1)⟩, HB0, ⟨sg_refl _ _⟩⟩
    case round =>
      clear HB0 f1 f2 f3 f4 f5 f6 f7 f8 f9 fa fb g1 g2 fc
      obtain ⟨s, r, rfl, rfl, HI, HLO, HHI, HB, HG⟩ := hrel
      by_cases c1 : s < r
      · obtain ⟨k1, rfl⟩ : ∃ q, gk = q + 1 := ⟨gk - 1, by have h1 := HI.out; omega⟩
        obtain ⟨h, hh⟩ : ∃ h, (s + r) / 2 = h := ⟨_, rfl⟩
        obtain ⟨q, hq⟩ : ∃ q, q + h = p := ⟨p - h, by have h1 := HI.out; have h2 := HSR.out; have h3 := HAB.out; omega⟩
        have hpq : p - h = q := by omega
        have HH := Aside0.mk (show s ≤ h ∧ h < r by omega)
        have HLZ := Aside0.mk (show q < xs.length ∧ h < xs.length by rw [HN.out]; have h1 := HI.out; have h2 := HSR.out; have h3 := HAB.out; have h4 := HH.out; omega)
        have cq := HB.out.cell HLZ.out.1
        have ch := HB.out.cell HLZ.out.2
        have HCM := Aside0.mk (fun W (hW : w.grownBy W (some g)) => HC.out W hW (Stb.el xs q) (Stb.el xs h) (el_mem HLZ.out.1) (el_mem HLZ.out.2))
        have UP := Aside0.mk (show ¬ cf (Stb.el xs q) (Stb.el xs h) < 0 → ∀ u, s0 ≤ u → u < h + 1 → ¬ cf (Stb.el xs (p - u)) (Stb.el xs u) < 0 from fun y u u1 u2 => by
          have h1 := HI.out; have h2 := HSR.out; have h3 := HAB.out; have h4 := HH.out
          rw [← hpq] at y
          exact Stb.cut_down HCC.out HA.out HBA.out (by omega) (by omega) (by omega) (by omega) (by omega) y)
        have DN := Aside0.mk (show cf (Stb.el xs q) (Stb.el xs h) < 0 → ∀ u, h ≤ u → u < mid → cf (Stb.el xs (p - u)) (Stb.el xs u) < 0 from fun y u u1 u2 => by
          have h1 := HI.out; have h2 := HSR.out; have h3 := HAB.out; have h4 := HH.out
          rw [← hpq] at y
          exact Stb.cut_up HCC.out HA.out HBA.out (by omega) (by omega) (by omega) (by omega) (by omega) y)
        have pj : (0 ≤ (h : Int)) = True := eq_true (by omega)
        have qj : ((h : Int) < (N : Int)) = True := eq_true (by have h1 := HLZ.out; rw [HN.out] at h1; omega)
        have pa : (0 ≤ (q : Int)) = True := eq_true (by omega)
        have qa : ((q : Int) < (N : Int)) = True := eq_true (by have h1 := HLZ.out; rw [HN.out] at h1; omega)
        have c1b : decide ((s : Int) < (r : Int)) = true := decide_eq_true (by omega)
        have c1n : decide (s < r) = true := decide_eq_true c1
        have HI2 := Aside0.mk (show (s0 ≤ h + 1 ∧ h + 1 ≤ r ∧ r ≤ mid ∧ r < h + 1 + k1) ∧ (s0 ≤ s ∧ s ≤ h ∧ h ≤ mid ∧ h < s + k1) by have h1 := HI.out; have h4 := HH.out; omega)
        have FW := Aside0.mk (show (wrap64 ((s : Int) + (r : Int)) = (s : Int) + (r : Int) ∧ IntKind.u64.wrap ((s : Int) + (r : Int)) / 2 = (h : Int) ∧ wrap64 (h : Int) = (h : Int)) ∧ wrap64 ((h : Int) + 1) = ((h + 1 : Nat) : Int) ∧ wrap64 ((p : Int) - (h : Int)) = (q : Int) ∧ IntKind.i64.wrap ((p : Int) - (h : Int)) = (q : Int) from by
          have h1 := HI.out; have h2 := HSR.out; have h3 := HAB.out; have h4 := HH.out
          exact ⟨sw_half hh (by omega) (by omega), by rw [sw_id (by omega) (by omega)]; omega, by rw [sw_id (by omega) (by omega)]; omega, by rw [sw_id2 (by omega) (by omega)]; omega⟩)
        obtain ⟨⟨hw1, hw2, hw3⟩, hw4, hw5, hw6⟩ := FW.out
        clear hh c1 hq hpq
        obtain ⟨y, hy⟩ : ∃ y, cf (Stb.el xs q) (Stb.el xs h) = y := ⟨_, rfl⟩
        rw [hy] at HCM UP DN
        clear hy
        generalize (Stb.el xs h).1 = xh at *
        generalize (Stb.el xs q).1 = xq at *
        by_cases hy : y < 0
        · have hyb : decide (y < 0) = true := decide_eq_true hy
          have U2 := Aside0.mk (DN.out hy)
          clear hy UP DN HHI
          go_wp2_with fail
          go_region_held3 (fun w' => w'.cell? ⟨g, q, none⟩ = some (.string xq) ∧ w'.cell? ⟨g, h, none⟩ = some (.string xh) ∧ Aside0 (Below wr.heap.size wr w'))
            (first | assumption | exact ⟨by first | assumption | go_keep, by first | assumption | go_keep, ⟨(Below.refl _ _).drew⟩⟩)
            (first | (go_at_call 52; have hX := (And.right (And.right ‹_ ∧ _ ∧ Aside0 (Below wr.heap.size wr _)›)); (with_reducible refine (HCM.out _ (sg_below HG.out hX.out)).mono ?_); rintro e w1 ⟨rfl, hb⟩; have hbb := below_step hX.out hb; have hnew := And.intro (pw_cell_below hbb cq) (And.intro (pw_cell_below hbb ch) (Aside0.mk hbb)); clear hb hbb))
          have hbb := (And.right (And.right ‹w1.cell? _ = _ ∧ _ ∧ Aside0 (Below wr.heap.size wr w1)›)).out
          have HB1 := Aside0.mk (HB.out.below hbb)
          have HG3 := Aside0.mk (sg_below HG.out hbb)
          clear hX hbb cq ch HB HG
          rename_i hHeld
          clear hHeld hnew
          go_wp2
          go_roundg k1
          case measure => omega
          case rel => exact ⟨s, h, rfl, rfl, ⟨HI2.out.2⟩, HLO, U2, HB1, HG3⟩
        · have hyb : decide (y < 0) = false := decide_eq_false hy
          have U2 := Aside0.mk (UP.out hy)
          clear hy UP DN HLO
          go_wp2_with fail
          go_region_held3 (fun w' => w'.cell? ⟨g, q, none⟩ = some (.string xq) ∧ w'.cell? ⟨g, h, none⟩ = some (.string xh) ∧ Aside0 (Below wr.heap.size wr w'))
            (first | assumption | exact ⟨by first | assumption | go_keep, by first | assumption | go_keep, ⟨(Below.refl _ _).drew⟩⟩)
            (first | (go_at_call 52; have hX := (And.right (And.right ‹_ ∧ _ ∧ Aside0 (Below wr.heap.size wr _)›)); (with_reducible refine (HCM.out _ (sg_below HG.out hX.out)).mono ?_); rintro e w1 ⟨rfl, hb⟩; have hbb := below_step hX.out hb; have hnew := And.intro (pw_cell_below hbb cq) (And.intro (pw_cell_below hbb ch) (Aside0.mk hbb)); clear hb hbb))
          have hbb := (And.right (And.right ‹w1.cell? _ = _ ∧ _ ∧ Aside0 (Below wr.heap.size wr w1)›)).out
          have HB1 := Aside0.mk (HB.out.below hbb)
          have HG3 := Aside0.mk (sg_below HG.out hbb)
          clear hX hbb cq ch HB HG
          rename_i hHeld
          clear hHeld hnew
          go_wp2
          go_roundg k1
          case measure => omega
          case rel => exact ⟨h + 1, r, (by first | rfl | rw [hw4]), rfl, ⟨HI2.out.1⟩, U2, HHI, HB1, HG3⟩
      · have c1b : decide ((s : Int) < (r : Int)) = false := decide_eq_false (by omega)
        have c1n : decide (s < r) = false := decide_eq_false c1
        obtain rfl : s = r := by have h1 := HI.out; omega
        obtain ⟨e, he⟩ : ∃ e, e + s = n := ⟨n - s, by have h1 := HI.out; have h2 := HSR.out; have h3 := HAB.out; omega⟩
        have HWE := Aside0.mk (show wrap64 ((n : Int) - (s : Int)) = (e : Int) by have h1 := HI.out; have h2 := HSR.out; have h3 := HAB.out; rw [sw_id (by omega) (by omega)]; omega)
        have HE := Aside0.mk (show e + s = mid + m ∧ a ≤ s ∧ s ≤ m ∧ s ≤ mid ∧ m ≤ e ∧ mid ≤ e ∧ e ≤ b by have h1 := HI.out; have h2 := HSR.out; have h3 := HAB.out; omega)
        have HCUT := Aside0.mk (show ∀ ys : List Tg, (∀ t, Stb.el ys t = if s ≤ t ∧ t < mid then Stb.el xs (t + (m - s)) else if mid ≤ t ∧ t < e then Stb.el xs (t - (e - m)) else Stb.el xs t) → Stb.Cut cf Prod.snd ys a s mid e b from fun ys E => by
          have h1 := HI.out; have h2 := HSR.out; have h3 := HAB.out; have h4 := HE.out; have h5 := HN.out
          have hpn : p = mid + m - 1 := by omega
          have hlo := HLO.out; have hhi := HHI.out
          rw [hpn] at hlo hhi
          exact Stb.cut_made HCC.out (by omega) h3.2.2.2.2.1 h4.1 (by have := HS0.out; omega) h1.1 h1.2.2.1 hlo hhi HA.out HBA.out HT.out E)
        clear c1 he HLO HHI HI HS0 HSR
        have HLEFT := Aside0.mk (show ∀ ys : List Tg, Stb.Sh a b xs ys → Stb.Cut cf Prod.snd ys a s mid e b → a < s → s < mid → ∀ W, Sb W g cap ys → w.grownBy W (some g) → Calls Tryd.prog 57 #[.slice (some ⟨g, 0, none⟩) N cap, .int .i64 a, .int .i64 s, .int .i64 mid, .func (.func 52) #[] #[.pointer (some ⟨bw, 0, none⟩)]] W fun e w' => e = .returned (.tuple #[]) ∧ ∃ zs, Stb.Sh a mid ys zs ∧ Stb.Asc cf Prod.snd zs a mid ∧ Sb w' g cap zs ∧ W.grownBy w' (some g) from fun ys hS hK k1 k2 W hW hg => by
          have h3 := HAB.out; have hl := hS.len; have h5 := HN.out
          have := HIH.out hW (HC.out.grown hg hS.perm) a s mid k1 k2 (by omega) (by omega) (by omega) hK.l1 hK.r1 hK.t1
          rw [show ys.length = N by omega] at this
          exact this)
        have HRIGHT := Aside0.mk (show ∀ ys zs : List Tg, Stb.Sh a b xs ys → Stb.Sh a mid ys zs → Stb.Cut cf Prod.snd ys a s mid e b → mid < e → e < b → ∀ W, Sb W g cap zs → w.grownBy W (some g) → Calls Tryd.prog 57 #[.slice (some ⟨g, 0, none⟩) N cap, .int .i64 mid, .int .i64 e, .int .i64 b, .func (.func 52) #[] #[.pointer (some ⟨bw, 0, none⟩)]] W fun e w' => e = .returned (.tuple #[]) ∧ ∃ vs, Stb.Sh mid b zs vs ∧ Stb.Asc cf Prod.snd vs mid b ∧ Sb w' g cap vs ∧ W.grownBy w' (some g) from fun ys zs hS hZ hK k1 k2 W hW hg => by
          have h3 := HAB.out; have hl := hS.len; have h5 := HN.out; have hl2 := hZ.len
          have o : ∀ t, mid ≤ t → Stb.el zs t = Stb.el ys t := fun t ht => hZ.out t (.inr ht)
          have := HIH.out hW (HC.out.grown hg (hZ.perm.trans hS.perm)) mid e b k1 k2 (by omega) (by omega) (by omega) (fun i j i1 ij j1 => by rw [o i i1, o j (by omega)]; exact hK.l2 i j i1 ij j1) (fun i j i1 ij j1 => by rw [o i (by omega), o j (by omega)]; exact hK.r2 i j i1 ij j1) (fun i j i1 i2 j1 j2 => by rw [o i i1, o j (by omega)]; exact hK.t2 i j i1 i2 j1 j2)
          rw [show zs.length = N by omega] at this
          exact this)
        have HEND := Aside0.mk (show ∀ ys zs vs : List Tg, Stb.Sh a b xs ys → Stb.Cut cf Prod.snd ys a s mid e b → Stb.Sh a mid ys zs → Stb.Asc cf Prod.snd zs a mid → Stb.Sh mid b zs vs → Stb.Asc cf Prod.snd vs mid b → Stb.Sh a b xs vs ∧ Stb.Asc cf Prod.snd vs a b from fun ys zs vs h1 h2 h3 h4 h5 h6 =>
          ⟨(h1.trans (h3.mono (Nat.le_refl _) (by have h := HAB.out; omega))).trans (h5.mono (by have h := HAB.out; omega) (Nat.le_refl _)), Stb.cut_joined h2.lt h3 h4 h5 h6⟩)
        by_cases qA : s < m <;> by_cases qB : s < mid <;> by_cases qL : a < s <;> by_cases qR : e < b
        · have tA : decide ((s : Int) < (m : Int)) = true := decide_eq_true (by have h4 := HE.out; omega)
          have uA : decide (s < m) = true := decide_eq_true (by have h4 := HE.out; omega)
          have tB : decide ((m : Int) < (e : Int)) = true := decide_eq_true (by have h4 := HE.out; omega)
          have uB : decide (m < e) = true := decide_eq_true (by have h4 := HE.out; omega)
          have tL : decide ((a : Int) < (s : Int)) = true := decide_eq_true (by have h4 := HE.out; omega)
          have uL : decide (a < s) = true := decide_eq_true (by have h4 := HE.out; omega)
          have tC : decide ((s : Int) < (mid : Int)) = true := decide_eq_true (by have h4 := HE.out; omega)
          have uC : decide (s < mid) = true := decide_eq_true (by have h4 := HE.out; omega)
          have tD : decide ((mid : Int) < (e : Int)) = true := decide_eq_true (by have h4 := HE.out; omega)
          have uD : decide (mid < e) = true := decide_eq_true (by have h4 := HE.out; omega)
          have tR : decide ((e : Int) < (b : Int)) = true := decide_eq_true (by have h4 := HE.out; omega)
          have uR : decide (e < b) = true := decide_eq_true (by have h4 := HE.out; omega)
          obtain ⟨i0, hi0⟩ : ∃ q, s + q = m := ⟨m - s, by omega⟩
          obtain ⟨j0, hj0⟩ : ∃ q, m + q = e := ⟨e - m, by have h4 := HE.out; omega⟩
          have HROT := Aside0.mk (rot_calls HB.out s m e i0 j0 (by omega) (by have h4 := HE.out; omega) hi0 hj0 (by have h4 := HE.out; have h3 := HAB.out; have h5 := HN.out; omega) (by have h3 := HAB.out; have h5 := HN.out; omega) (.func (.func 52) #[] #[.pointer (some ⟨bw, 0, none⟩)]))
          rw [HN.out] at HROT
          have HSY := Aside0.mk (Stb.rot_sh m a b (i0 + j0) xs s i0 j0 (Nat.le_refl _) (by omega) (by have h4 := HE.out; omega) hi0 (by have h4 := HE.out; omega) (by have h4 := HE.out; omega) (by have h3 := HAB.out; have h5 := HN.out; omega))
          have HKY := Aside0.mk (HCUT.out (Stb.rot m (i0 + j0) xs i0 j0) (fun t => by
            have h4 := HE.out; have h3 := HAB.out; have h5 := HN.out
            rw [Stb.rot_el m (i0 + j0) xs s i0 j0 (Nat.le_refl _) (by omega) (by omega) hi0 (by omega) t, show s + j0 = mid by omega, show m + j0 = e by omega, show m - s = i0 by omega, show e - m = j0 by omega]))
          generalize Stb.rot m (i0 + j0) xs i0 j0 = ys at HROT HSY HKY
          clear hi0 hj0 HB
          have HL2 := Aside0.mk (HLEFT.out ys HSY.out HKY.out qL qB)
          have ME := Aside0.mk (show mid < e by have h4 := HE.out; omega)
          have HR2 := Aside0.mk (fun zs => HRIGHT.out ys zs HSY.out)
          have hwe := HWE.out
          go_wp2_with (first | (go_at_call 59; (with_reducible refine HROT.out.mono ?_); rintro e w1 ⟨rfl, hb, hg⟩; have HBY := Aside0.mk hb; have HGY := Aside0.mk (sg_trans HG.out hg); clear hb hg) | (go_at_call 57; (with_reducible refine (HL2.out _ HBY.out HGY.out).mono ?_); rintro e w2 ⟨rfl, zs, hs, ha, hb, hg⟩; have HSZ := Aside0.mk hs; have HAZ := Aside0.mk ha; have HBZ := Aside0.mk hb; have HGZ := Aside0.mk (sg_trans HGY.out hg); clear hs ha hb hg) | (go_at_call 57; (with_reducible refine (HR2.out _ HSZ.out HKY.out ME.out qR _ HBZ.out HGZ.out).mono ?_); rintro e w3 ⟨rfl, vs, hs, ha, hb, hg⟩; have HSV := Aside0.mk hs; have HAV := Aside0.mk ha; have HBV := Aside0.mk hb; have HGV := Aside0.mk (sg_trans HGZ.out hg); clear hs ha hb hg))
          all_goals
            have HX := HEND.out _ _ _ HSY.out HKY.out HSZ.out HAZ.out HSV.out HAV.out
            go_end0
            exact ⟨rfl, _, HX.1, HX.2, HBV.out, HGV.out⟩
        · have tA : decide ((s : Int) < (m : Int)) = true := decide_eq_true (by have h4 := HE.out; omega)
          have uA : decide (s < m) = true := decide_eq_true (by have h4 := HE.out; omega)
          have tB : decide ((m : Int) < (e : Int)) = true := decide_eq_true (by have h4 := HE.out; omega)
          have uB : decide (m < e) = true := decide_eq_true (by have h4 := HE.out; omega)
          have tL : decide ((a : Int) < (s : Int)) = true := decide_eq_true (by have h4 := HE.out; omega)
          have uL : decide (a < s) = true := decide_eq_true (by have h4 := HE.out; omega)
          have tC : decide ((s : Int) < (mid : Int)) = true := decide_eq_true (by have h4 := HE.out; omega)
          have uC : decide (s < mid) = true := decide_eq_true (by have h4 := HE.out; omega)
          have tD : decide ((mid : Int) < (e : Int)) = true := decide_eq_true (by have h4 := HE.out; omega)
          have uD : decide (mid < e) = true := decide_eq_true (by have h4 := HE.out; omega)
          have tR : decide ((e : Int) < (b : Int)) = false := decide_eq_false (by have h4 := HE.out; omega)
          have uR : decide (e < b) = false := decide_eq_false (by have h4 := HE.out; omega)
          obtain ⟨i0, hi0⟩ : ∃ q, s + q = m := ⟨m - s, by omega⟩
          obtain ⟨j0, hj0⟩ : ∃ q, m + q = e := ⟨e - m, by have h4 := HE.out; omega⟩
          have HROT := Aside0.mk (rot_calls HB.out s m e i0 j0 (by omega) (by have h4 := HE.out; omega) hi0 hj0 (by have h4 := HE.out; have h3 := HAB.out; have h5 := HN.out; omega) (by have h3 := HAB.out; have h5 := HN.out; omega) (.func (.func 52) #[] #[.pointer (some ⟨bw, 0, none⟩)]))
          rw [HN.out] at HROT
          have HSY := Aside0.mk (Stb.rot_sh m a b (i0 + j0) xs s i0 j0 (Nat.le_refl _) (by omega) (by have h4 := HE.out; omega) hi0 (by have h4 := HE.out; omega) (by have h4 := HE.out; omega) (by have h3 := HAB.out; have h5 := HN.out; omega))
          have HKY := Aside0.mk (HCUT.out (Stb.rot m (i0 + j0) xs i0 j0) (fun t => by
            have h4 := HE.out; have h3 := HAB.out; have h5 := HN.out
            rw [Stb.rot_el m (i0 + j0) xs s i0 j0 (Nat.le_refl _) (by omega) (by omega) hi0 (by omega) t, show s + j0 = mid by omega, show m + j0 = e by omega, show m - s = i0 by omega, show e - m = j0 by omega]))
          generalize Stb.rot m (i0 + j0) xs i0 j0 = ys at HROT HSY HKY
          clear hi0 hj0 HB
          have HL2 := Aside0.mk (HLEFT.out ys HSY.out HKY.out qL qB)
          have hwe := HWE.out
          go_wp2_with (first | (go_at_call 59; (with_reducible refine HROT.out.mono ?_); rintro e w1 ⟨rfl, hb, hg⟩; have HBY := Aside0.mk hb; have HGY := Aside0.mk (sg_trans HG.out hg); clear hb hg) | (go_at_call 57; (with_reducible refine (HL2.out _ HBY.out HGY.out).mono ?_); rintro e w2 ⟨rfl, zs, hs, ha, hb, hg⟩; have HSZ := Aside0.mk hs; have HAZ := Aside0.mk ha; have HBZ := Aside0.mk hb; have HGZ := Aside0.mk (sg_trans HGY.out hg); clear hs ha hb hg))
          all_goals
            have HSV := Stb.Sh.refl mid b zs
            have HAV := cut_right HKY.out (by clear hwe; have h4 := HE.out; omega) HSZ.out
            have HX := HEND.out _ _ _ HSY.out HKY.out HSZ.out HAZ.out HSV HAV
            go_end0
            exact ⟨rfl, _, HX.1, HX.2, HBZ.out, HGZ.out⟩
        · have tA : decide ((s : Int) < (m : Int)) = true := decide_eq_true (by have h4 := HE.out; omega)
          have uA : decide (s < m) = true := decide_eq_true (by have h4 := HE.out; omega)
          have tB : decide ((m : Int) < (e : Int)) = true := decide_eq_true (by have h4 := HE.out; omega)
          have uB : decide (m < e) = true := decide_eq_true (by have h4 := HE.out; omega)
          have tL : decide ((a : Int) < (s : Int)) = false := decide_eq_false (by have h4 := HE.out; omega)
          have uL : decide (a < s) = false := decide_eq_false (by have h4 := HE.out; omega)
          have tC : decide ((s : Int) < (mid : Int)) = true := decide_eq_true (by have h4 := HE.out; omega)
          have uC : decide (s < mid) = true := decide_eq_true (by have h4 := HE.out; omega)
          have tD : decide ((mid : Int) < (e : Int)) = true := decide_eq_true (by have h4 := HE.out; omega)
          have uD : decide (mid < e) = true := decide_eq_true (by have h4 := HE.out; omega)
          have tR : decide ((e : Int) < (b : Int)) = true := decide_eq_true (by have h4 := HE.out; omega)
          have uR : decide (e < b) = true := decide_eq_true (by have h4 := HE.out; omega)
          obtain ⟨i0, hi0⟩ : ∃ q, s + q = m := ⟨m - s, by omega⟩
          obtain ⟨j0, hj0⟩ : ∃ q, m + q = e := ⟨e - m, by have h4 := HE.out; omega⟩
          have HROT := Aside0.mk (rot_calls HB.out s m e i0 j0 (by omega) (by have h4 := HE.out; omega) hi0 hj0 (by have h4 := HE.out; have h3 := HAB.out; have h5 := HN.out; omega) (by have h3 := HAB.out; have h5 := HN.out; omega) (.func (.func 52) #[] #[.pointer (some ⟨bw, 0, none⟩)]))
          rw [HN.out] at HROT
          have HSY := Aside0.mk (Stb.rot_sh m a b (i0 + j0) xs s i0 j0 (Nat.le_refl _) (by omega) (by have h4 := HE.out; omega) hi0 (by have h4 := HE.out; omega) (by have h4 := HE.out; omega) (by have h3 := HAB.out; have h5 := HN.out; omega))
          have HKY := Aside0.mk (HCUT.out (Stb.rot m (i0 + j0) xs i0 j0) (fun t => by
            have h4 := HE.out; have h3 := HAB.out; have h5 := HN.out
            rw [Stb.rot_el m (i0 + j0) xs s i0 j0 (Nat.le_refl _) (by omega) (by omega) hi0 (by omega) t, show s + j0 = mid by omega, show m + j0 = e by omega, show m - s = i0 by omega, show e - m = j0 by omega]))
          generalize Stb.rot m (i0 + j0) xs i0 j0 = ys at HROT HSY HKY
          clear hi0 hj0 HB
          have HSZ := Aside0.mk (Stb.Sh.refl a mid ys)
          have HAZ := Aside0.mk (cut_left HKY.out (by have h4 := HE.out; omega))
          have ME := Aside0.mk (show mid < e by have h4 := HE.out; omega)
          have HR2 := Aside0.mk (fun zs => HRIGHT.out ys zs HSY.out)
          have hwe := HWE.out
          go_wp2_with (first | (go_at_call 59; (with_reducible refine HROT.out.mono ?_); rintro e w1 ⟨rfl, hb, hg⟩; have HBY := Aside0.mk hb; have HGY := Aside0.mk (sg_trans HG.out hg); clear hb hg) | (go_at_call 57; (with_reducible refine (HR2.out _ HSZ.out HKY.out ME.out qR _ HBY.out HGY.out).mono ?_); rintro e w3 ⟨rfl, vs, hs, ha, hb, hg⟩; have HSV := Aside0.mk hs; have HAV := Aside0.mk ha; have HBV := Aside0.mk hb; have HGV := Aside0.mk (sg_trans HGY.out hg); clear hs ha hb hg))
          all_goals
            have HX := HEND.out _ _ _ HSY.out HKY.out HSZ.out HAZ.out HSV.out HAV.out
            go_end0
            exact ⟨rfl, _, HX.1, HX.2, HBV.out, HGV.out⟩
        · have tA : decide ((s : Int) < (m : Int)) = true := decide_eq_true (by have h4 := HE.out; omega)
          have uA : decide (s < m) = true := decide_eq_true (by have h4 := HE.out; omega)
          have tB : decide ((m : Int) < (e : Int)) = true := decide_eq_true (by have h4 := HE.out; omega)
          have uB : decide (m < e) = true := decide_eq_true (by have h4 := HE.out; omega)
          have tL : decide ((a : Int) < (s : Int)) = false := decide_eq_false (by have h4 := HE.out; omega)
          have uL : decide (a < s) = false := decide_eq_false (by have h4 := HE.out; omega)
          have tC : decide ((s : Int) < (mid : Int)) = true := decide_eq_true (by have h4 := HE.out; omega)
          have uC : decide (s < mid) = true := decide_eq_true (by have h4 := HE.out; omega)
          have tD : decide ((mid : Int) < (e : Int)) = true := decide_eq_true (by have h4 := HE.out; omega)
          have uD : decide (mid < e) = true := decide_eq_true (by have h4 := HE.out; omega)
          have tR : decide ((e : Int) < (b : Int)) = false := decide_eq_false (by have h4 := HE.out; omega)
          have uR : decide (e < b) = false := decide_eq_false (by have h4 := HE.out; omega)
          obtain ⟨i0, hi0⟩ : ∃ q, s + q = m := ⟨m - s, by omega⟩
          obtain ⟨j0, hj0⟩ : ∃ q, m + q = e := ⟨e - m, by have h4 := HE.out; omega⟩
          have HROT := Aside0.mk (rot_calls HB.out s m e i0 j0 (by omega) (by have h4 := HE.out; omega) hi0 hj0 (by have h4 := HE.out; have h3 := HAB.out; have h5 := HN.out; omega) (by have h3 := HAB.out; have h5 := HN.out; omega) (.func (.func 52) #[] #[.pointer (some ⟨bw, 0, none⟩)]))
          rw [HN.out] at HROT
          have HSY := Aside0.mk (Stb.rot_sh m a b (i0 + j0) xs s i0 j0 (Nat.le_refl _) (by omega) (by have h4 := HE.out; omega) hi0 (by have h4 := HE.out; omega) (by have h4 := HE.out; omega) (by have h3 := HAB.out; have h5 := HN.out; omega))
          have HKY := Aside0.mk (HCUT.out (Stb.rot m (i0 + j0) xs i0 j0) (fun t => by
            have h4 := HE.out; have h3 := HAB.out; have h5 := HN.out
            rw [Stb.rot_el m (i0 + j0) xs s i0 j0 (Nat.le_refl _) (by omega) (by omega) hi0 (by omega) t, show s + j0 = mid by omega, show m + j0 = e by omega, show m - s = i0 by omega, show e - m = j0 by omega]))
          generalize Stb.rot m (i0 + j0) xs i0 j0 = ys at HROT HSY HKY
          clear hi0 hj0 HB
          have HSZ := Aside0.mk (Stb.Sh.refl a mid ys)
          have HAZ := Aside0.mk (cut_left HKY.out (by have h4 := HE.out; omega))
          have hwe := HWE.out
          go_wp2_with (first | (go_at_call 59; (with_reducible refine HROT.out.mono ?_); rintro e w1 ⟨rfl, hb, hg⟩; have HBY := Aside0.mk hb; have HGY := Aside0.mk (sg_trans HG.out hg); clear hb hg))
          all_goals
            have HSV := Stb.Sh.refl mid b ys
            have HAV := cut_right HKY.out (by clear hwe; have h4 := HE.out; omega) HSZ.out
            have HX := HEND.out _ _ _ HSY.out HKY.out HSZ.out HAZ.out HSV HAV
            go_end0
            exact ⟨rfl, _, HX.1, HX.2, HBY.out, HGY.out⟩
        · have tA : decide ((s : Int) < (m : Int)) = true := decide_eq_true (by have h4 := HE.out; omega)
          have uA : decide (s < m) = true := decide_eq_true (by have h4 := HE.out; omega)
          have tB : decide ((m : Int) < (e : Int)) = false := decide_eq_false (by have h4 := HE.out; omega)
          have uB : decide (m < e) = false := decide_eq_false (by have h4 := HE.out; omega)
          have tL : decide ((a : Int) < (s : Int)) = true := decide_eq_true (by have h4 := HE.out; omega)
          have uL : decide (a < s) = true := decide_eq_true (by have h4 := HE.out; omega)
          have tC : decide ((s : Int) < (mid : Int)) = false := decide_eq_false (by have h4 := HE.out; omega)
          have uC : decide (s < mid) = false := decide_eq_false (by have h4 := HE.out; omega)
          have tD : decide ((mid : Int) < (e : Int)) = true := decide_eq_true (by have h4 := HE.out; omega)
          have uD : decide (mid < e) = true := decide_eq_true (by have h4 := HE.out; omega)
          have tR : decide ((e : Int) < (b : Int)) = true := decide_eq_true (by have h4 := HE.out; omega)
          have uR : decide (e < b) = true := decide_eq_true (by have h4 := HE.out; omega)
          have HSY := Aside0.mk (Stb.Sh.refl a b xs)
          have HKY := Aside0.mk (HCUT.out xs (fun t => by
            have h4 := HE.out
            by_cases z : s ≤ t ∧ t < mid
            · rw [if_pos z, show m - s = 0 by omega, Nat.add_zero]
            · rw [if_neg z]
              by_cases z2 : mid ≤ t ∧ t < e
              · rw [if_pos z2, show e - m = 0 by omega, Nat.sub_zero]
              · rw [if_neg z2]))
          have HBY := HB
          have HGY := HG
          have HSZ := Aside0.mk (Stb.Sh.refl a mid xs)
          have HAZ := Aside0.mk (cut_left HKY.out (by have h4 := HE.out; omega))
          have ME := Aside0.mk (show mid < e by have h4 := HE.out; omega)
          have HR2 := Aside0.mk (fun zs => HRIGHT.out xs zs HSY.out)
          have hwe := HWE.out
          go_wp2_with (first | (go_at_call 57; (with_reducible refine (HR2.out _ HSZ.out HKY.out ME.out qR _ HBY.out HGY.out).mono ?_); rintro e w3 ⟨rfl, vs, hs, ha, hb, hg⟩; have HSV := Aside0.mk hs; have HAV := Aside0.mk ha; have HBV := Aside0.mk hb; have HGV := Aside0.mk (sg_trans HGY.out hg); clear hs ha hb hg))
          all_goals
            have HX := HEND.out _ _ _ HSY.out HKY.out HSZ.out HAZ.out HSV.out HAV.out
            go_end0
            exact ⟨rfl, _, HX.1, HX.2, HBV.out, HGV.out⟩
        · have tA : decide ((s : Int) < (m : Int)) = true := decide_eq_true (by have h4 := HE.out; omega)
          have uA : decide (s < m) = true := decide_eq_true (by have h4 := HE.out; omega)
          have tB : decide ((m : Int) < (e : Int)) = false := decide_eq_false (by have h4 := HE.out; omega)
          have uB : decide (m < e) = false := decide_eq_false (by have h4 := HE.out; omega)
          have tL : decide ((a : Int) < (s : Int)) = true := decide_eq_true (by have h4 := HE.out; omega)
          have uL : decide (a < s) = true := decide_eq_true (by have h4 := HE.out; omega)
          have tC : decide ((s : Int) < (mid : Int)) = false := decide_eq_false (by have h4 := HE.out; omega)
          have uC : decide (s < mid) = false := decide_eq_false (by have h4 := HE.out; omega)
          have tD : decide ((mid : Int) < (e : Int)) = true := decide_eq_true (by have h4 := HE.out; omega)
          have uD : decide (mid < e) = true := decide_eq_true (by have h4 := HE.out; omega)
          have tR : decide ((e : Int) < (b : Int)) = false := decide_eq_false (by have h4 := HE.out; omega)
          have uR : decide (e < b) = false := decide_eq_false (by have h4 := HE.out; omega)
          have HSY := Aside0.mk (Stb.Sh.refl a b xs)
          have HKY := Aside0.mk (HCUT.out xs (fun t => by
            have h4 := HE.out
            by_cases z : s ≤ t ∧ t < mid
            · rw [if_pos z, show m - s = 0 by omega, Nat.add_zero]
            · rw [if_neg z]
              by_cases z2 : mid ≤ t ∧ t < e
              · rw [if_pos z2, show e - m = 0 by omega, Nat.sub_zero]
              · rw [if_neg z2]))
          have HBY := HB
          have HGY := HG
          have HSZ := Aside0.mk (Stb.Sh.refl a mid xs)
          have HAZ := Aside0.mk (cut_left HKY.out (by have h4 := HE.out; omega))
          have hwe := HWE.out
          go_wp2_with (first | fail)
          all_goals
            have HSV := Stb.Sh.refl mid b xs
            have HAV := cut_right HKY.out (by clear hwe; have h4 := HE.out; omega) HSZ.out
            have HX := HEND.out _ _ _ HSY.out HKY.out HSZ.out HAZ.out HSV HAV
            go_end0
            exact ⟨rfl, _, HX.1, HX.2, HBY.out, HGY.out⟩
        · have tA : decide ((s : Int) < (m : Int)) = true := decide_eq_true (by have h4 := HE.out; omega)
          have uA : decide (s < m) = true := decide_eq_true (by have h4 := HE.out; omega)
          have tB : decide ((m : Int) < (e : Int)) = false := decide_eq_false (by have h4 := HE.out; omega)
          have uB : decide (m < e) = false := decide_eq_false (by have h4 := HE.out; omega)
          have tL : decide ((a : Int) < (s : Int)) = false := decide_eq_false (by have h4 := HE.out; omega)
          have uL : decide (a < s) = false := decide_eq_false (by have h4 := HE.out; omega)
          have tC : decide ((s : Int) < (mid : Int)) = false := decide_eq_false (by have h4 := HE.out; omega)
          have uC : decide (s < mid) = false := decide_eq_false (by have h4 := HE.out; omega)
          have tD : decide ((mid : Int) < (e : Int)) = true := decide_eq_true (by have h4 := HE.out; omega)
          have uD : decide (mid < e) = true := decide_eq_true (by have h4 := HE.out; omega)
          have tR : decide ((e : Int) < (b : Int)) = true := decide_eq_true (by have h4 := HE.out; omega)
          have uR : decide (e < b) = true := decide_eq_true (by have h4 := HE.out; omega)
          have HSY := Aside0.mk (Stb.Sh.refl a b xs)
          have HKY := Aside0.mk (HCUT.out xs (fun t => by
            have h4 := HE.out
            by_cases z : s ≤ t ∧ t < mid
            · rw [if_pos z, show m - s = 0 by omega, Nat.add_zero]
            · rw [if_neg z]
              by_cases z2 : mid ≤ t ∧ t < e
              · rw [if_pos z2, show e - m = 0 by omega, Nat.sub_zero]
              · rw [if_neg z2]))
          have HBY := HB
          have HGY := HG
          have HSZ := Aside0.mk (Stb.Sh.refl a mid xs)
          have HAZ := Aside0.mk (cut_left HKY.out (by have h4 := HE.out; omega))
          have ME := Aside0.mk (show mid < e by have h4 := HE.out; omega)
          have HR2 := Aside0.mk (fun zs => HRIGHT.out xs zs HSY.out)
          have hwe := HWE.out
          go_wp2_with (first | (go_at_call 57; (with_reducible refine (HR2.out _ HSZ.out HKY.out ME.out qR _ HBY.out HGY.out).mono ?_); rintro e w3 ⟨rfl, vs, hs, ha, hb, hg⟩; have HSV := Aside0.mk hs; have HAV := Aside0.mk ha; have HBV := Aside0.mk hb; have HGV := Aside0.mk (sg_trans HGY.out hg); clear hs ha hb hg))
          all_goals
            have HX := HEND.out _ _ _ HSY.out HKY.out HSZ.out HAZ.out HSV.out HAV.out
            go_end0
            exact ⟨rfl, _, HX.1, HX.2, HBV.out, HGV.out⟩
        · have tA : decide ((s : Int) < (m : Int)) = true := decide_eq_true (by have h4 := HE.out; omega)
          have uA : decide (s < m) = true := decide_eq_true (by have h4 := HE.out; omega)
          have tB : decide ((m : Int) < (e : Int)) = false := decide_eq_false (by have h4 := HE.out; omega)
          have uB : decide (m < e) = false := decide_eq_false (by have h4 := HE.out; omega)
          have tL : decide ((a : Int) < (s : Int)) = false := decide_eq_false (by have h4 := HE.out; omega)
          have uL : decide (a < s) = false := decide_eq_false (by have h4 := HE.out; omega)
          have tC : decide ((s : Int) < (mid : Int)) = false := decide_eq_false (by have h4 := HE.out; omega)
          have uC : decide (s < mid) = false := decide_eq_false (by have h4 := HE.out; omega)
          have tD : decide ((mid : Int) < (e : Int)) = true := decide_eq_true (by have h4 := HE.out; omega)
          have uD : decide (mid < e) = true := decide_eq_true (by have h4 := HE.out; omega)
          have tR : decide ((e : Int) < (b : Int)) = false := decide_eq_false (by have h4 := HE.out; omega)
          have uR : decide (e < b) = false := decide_eq_false (by have h4 := HE.out; omega)
          have HSY := Aside0.mk (Stb.Sh.refl a b xs)
          have HKY := Aside0.mk (HCUT.out xs (fun t => by
            have h4 := HE.out
            by_cases z : s ≤ t ∧ t < mid
            · rw [if_pos z, show m - s = 0 by omega, Nat.add_zero]
            · rw [if_neg z]
              by_cases z2 : mid ≤ t ∧ t < e
              · rw [if_pos z2, show e - m = 0 by omega, Nat.sub_zero]
              · rw [if_neg z2]))
          have HBY := HB
          have HGY := HG
          have HSZ := Aside0.mk (Stb.Sh.refl a mid xs)
          have HAZ := Aside0.mk (cut_left HKY.out (by have h4 := HE.out; omega))
          have hwe := HWE.out
          go_wp2_with (first | fail)
          all_goals
            have HSV := Stb.Sh.refl mid b xs
            have HAV := cut_right HKY.out (by clear hwe; have h4 := HE.out; omega) HSZ.out
            have HX := HEND.out _ _ _ HSY.out HKY.out HSZ.out HAZ.out HSV HAV
            go_end0
            exact ⟨rfl, _, HX.1, HX.2, HBY.out, HGY.out⟩
        · have tA : decide ((s : Int) < (m : Int)) = false := decide_eq_false (by have h4 := HE.out; omega)
          have uA : decide (s < m) = false := decide_eq_false (by have h4 := HE.out; omega)
          have tB : decide ((m : Int) < (e : Int)) = true := decide_eq_true (by have h4 := HE.out; omega)
          have uB : decide (m < e) = true := decide_eq_true (by have h4 := HE.out; omega)
          have tL : decide ((a : Int) < (s : Int)) = true := decide_eq_true (by have h4 := HE.out; omega)
          have uL : decide (a < s) = true := decide_eq_true (by have h4 := HE.out; omega)
          have tC : decide ((s : Int) < (mid : Int)) = true := decide_eq_true (by have h4 := HE.out; omega)
          have uC : decide (s < mid) = true := decide_eq_true (by have h4 := HE.out; omega)
          have tD : decide ((mid : Int) < (e : Int)) = false := decide_eq_false (by have h4 := HE.out; omega)
          have uD : decide (mid < e) = false := decide_eq_false (by have h4 := HE.out; omega)
          have tR : decide ((e : Int) < (b : Int)) = true := decide_eq_true (by have h4 := HE.out; omega)
          have uR : decide (e < b) = true := decide_eq_true (by have h4 := HE.out; omega)
          have HSY := Aside0.mk (Stb.Sh.refl a b xs)
          have HKY := Aside0.mk (HCUT.out xs (fun t => by
            have h4 := HE.out
            by_cases z : s ≤ t ∧ t < mid
            · rw [if_pos z, show m - s = 0 by omega, Nat.add_zero]
            · rw [if_neg z]
              by_cases z2 : mid ≤ t ∧ t < e
              · rw [if_pos z2, show e - m = 0 by omega, Nat.sub_zero]
              · rw [if_neg z2]))
          have HBY := HB
          have HGY := HG
          have HL2 := Aside0.mk (HLEFT.out xs HSY.out HKY.out qL qB)
          have hwe := HWE.out
          go_wp2_with (first | (go_at_call 57; (with_reducible refine (HL2.out _ HBY.out HGY.out).mono ?_); rintro e w2 ⟨rfl, zs, hs, ha, hb, hg⟩; have HSZ := Aside0.mk hs; have HAZ := Aside0.mk ha; have HBZ := Aside0.mk hb; have HGZ := Aside0.mk (sg_trans HGY.out hg); clear hs ha hb hg))
          all_goals
            have HSV := Stb.Sh.refl mid b zs
            have HAV := cut_right HKY.out (by clear hwe; have h4 := HE.out; omega) HSZ.out
            have HX := HEND.out _ _ _ HSY.out HKY.out HSZ.out HAZ.out HSV HAV
            go_end0
            exact ⟨rfl, _, HX.1, HX.2, HBZ.out, HGZ.out⟩
        · have tA : decide ((s : Int) < (m : Int)) = false := decide_eq_false (by have h4 := HE.out; omega)
          have uA : decide (s < m) = false := decide_eq_false (by have h4 := HE.out; omega)
          have tB : decide ((m : Int) < (e : Int)) = true := decide_eq_true (by have h4 := HE.out; omega)
          have uB : decide (m < e) = true := decide_eq_true (by have h4 := HE.out; omega)
          have tL : decide ((a : Int) < (s : Int)) = true := decide_eq_true (by have h4 := HE.out; omega)
          have uL : decide (a < s) = true := decide_eq_true (by have h4 := HE.out; omega)
          have tC : decide ((s : Int) < (mid : Int)) = true := decide_eq_true (by have h4 := HE.out; omega)
          have uC : decide (s < mid) = true := decide_eq_true (by have h4 := HE.out; omega)
          have tD : decide ((mid : Int) < (e : Int)) = false := decide_eq_false (by have h4 := HE.out; omega)
          have uD : decide (mid < e) = false := decide_eq_false (by have h4 := HE.out; omega)
          have tR : decide ((e : Int) < (b : Int)) = false := decide_eq_false (by have h4 := HE.out; omega)
          have uR : decide (e < b) = false := decide_eq_false (by have h4 := HE.out; omega)
          have HSY := Aside0.mk (Stb.Sh.refl a b xs)
          have HKY := Aside0.mk (HCUT.out xs (fun t => by
            have h4 := HE.out
            by_cases z : s ≤ t ∧ t < mid
            · rw [if_pos z, show m - s = 0 by omega, Nat.add_zero]
            · rw [if_neg z]
              by_cases z2 : mid ≤ t ∧ t < e
              · rw [if_pos z2, show e - m = 0 by omega, Nat.sub_zero]
              · rw [if_neg z2]))
          have HBY := HB
          have HGY := HG
          have HL2 := Aside0.mk (HLEFT.out xs HSY.out HKY.out qL qB)
          have hwe := HWE.out
          go_wp2_with (first | (go_at_call 57; (with_reducible refine (HL2.out _ HBY.out HGY.out).mono ?_); rintro e w2 ⟨rfl, zs, hs, ha, hb, hg⟩; have HSZ := Aside0.mk hs; have HAZ := Aside0.mk ha; have HBZ := Aside0.mk hb; have HGZ := Aside0.mk (sg_trans HGY.out hg); clear hs ha hb hg))
          all_goals
            have HSV := Stb.Sh.refl mid b zs
            have HAV := cut_right HKY.out (by clear hwe; have h4 := HE.out; omega) HSZ.out
            have HX := HEND.out _ _ _ HSY.out HKY.out HSZ.out HAZ.out HSV HAV
            go_end0
            exact ⟨rfl, _, HX.1, HX.2, HBZ.out, HGZ.out⟩
        · have tA : decide ((s : Int) < (m : Int)) = false := decide_eq_false (by have h4 := HE.out; omega)
          have uA : decide (s < m) = false := decide_eq_false (by have h4 := HE.out; omega)
          have tB : decide ((m : Int) < (e : Int)) = true := decide_eq_true (by have h4 := HE.out; omega)
          have uB : decide (m < e) = true := decide_eq_true (by have h4 := HE.out; omega)
          have tL : decide ((a : Int) < (s : Int)) = false := decide_eq_false (by have h4 := HE.out; omega)
          have uL : decide (a < s) = false := decide_eq_false (by have h4 := HE.out; omega)
          have tC : decide ((s : Int) < (mid : Int)) = true := decide_eq_true (by have h4 := HE.out; omega)
          have uC : decide (s < mid) = true := decide_eq_true (by have h4 := HE.out; omega)
          have tD : decide ((mid : Int) < (e : Int)) = false := decide_eq_false (by have h4 := HE.out; omega)
          have uD : decide (mid < e) = false := decide_eq_false (by have h4 := HE.out; omega)
          have tR : decide ((e : Int) < (b : Int)) = true := decide_eq_true (by have h4 := HE.out; omega)
          have uR : decide (e < b) = true := decide_eq_true (by have h4 := HE.out; omega)
          have HSY := Aside0.mk (Stb.Sh.refl a b xs)
          have HKY := Aside0.mk (HCUT.out xs (fun t => by
            have h4 := HE.out
            by_cases z : s ≤ t ∧ t < mid
            · rw [if_pos z, show m - s = 0 by omega, Nat.add_zero]
            · rw [if_neg z]
              by_cases z2 : mid ≤ t ∧ t < e
              · rw [if_pos z2, show e - m = 0 by omega, Nat.sub_zero]
              · rw [if_neg z2]))
          have HBY := HB
          have HGY := HG
          have HSZ := Aside0.mk (Stb.Sh.refl a mid xs)
          have HAZ := Aside0.mk (cut_left HKY.out (by have h4 := HE.out; omega))
          have hwe := HWE.out
          go_wp2_with (first | fail)
          all_goals
            have HSV := Stb.Sh.refl mid b xs
            have HAV := cut_right HKY.out (by clear hwe; have h4 := HE.out; omega) HSZ.out
            have HX := HEND.out _ _ _ HSY.out HKY.out HSZ.out HAZ.out HSV HAV
            go_end0
            exact ⟨rfl, _, HX.1, HX.2, HBY.out, HGY.out⟩
        · have tA : decide ((s : Int) < (m : Int)) = false := decide_eq_false (by have h4 := HE.out; omega)
          have uA : decide (s < m) = false := decide_eq_false (by have h4 := HE.out; omega)
          have tB : decide ((m : Int) < (e : Int)) = true := decide_eq_true (by have h4 := HE.out; omega)
          have uB : decide (m < e) = true := decide_eq_true (by have h4 := HE.out; omega)
          have tL : decide ((a : Int) < (s : Int)) = false := decide_eq_false (by have h4 := HE.out; omega)
          have uL : decide (a < s) = false := decide_eq_false (by have h4 := HE.out; omega)
          have tC : decide ((s : Int) < (mid : Int)) = true := decide_eq_true (by have h4 := HE.out; omega)
          have uC : decide (s < mid) = true := decide_eq_true (by have h4 := HE.out; omega)
          have tD : decide ((mid : Int) < (e : Int)) = false := decide_eq_false (by have h4 := HE.out; omega)
          have uD : decide (mid < e) = false := decide_eq_false (by have h4 := HE.out; omega)
          have tR : decide ((e : Int) < (b : Int)) = false := decide_eq_false (by have h4 := HE.out; omega)
          have uR : decide (e < b) = false := decide_eq_false (by have h4 := HE.out; omega)
          have HSY := Aside0.mk (Stb.Sh.refl a b xs)
          have HKY := Aside0.mk (HCUT.out xs (fun t => by
            have h4 := HE.out
            by_cases z : s ≤ t ∧ t < mid
            · rw [if_pos z, show m - s = 0 by omega, Nat.add_zero]
            · rw [if_neg z]
              by_cases z2 : mid ≤ t ∧ t < e
              · rw [if_pos z2, show e - m = 0 by omega, Nat.sub_zero]
              · rw [if_neg z2]))
          have HBY := HB
          have HGY := HG
          have HSZ := Aside0.mk (Stb.Sh.refl a mid xs)
          have HAZ := Aside0.mk (cut_left HKY.out (by have h4 := HE.out; omega))
          have hwe := HWE.out
          go_wp2_with (first | fail)
          all_goals
            have HSV := Stb.Sh.refl mid b xs
            have HAV := cut_right HKY.out (by clear hwe; have h4 := HE.out; omega) HSZ.out
            have HX := HEND.out _ _ _ HSY.out HKY.out HSZ.out HAZ.out HSV HAV
            go_end0
            exact ⟨rfl, _, HX.1, HX.2, HBY.out, HGY.out⟩
        · have tA : decide ((s : Int) < (m : Int)) = false := decide_eq_false (by have h4 := HE.out; omega)
          have uA : decide (s < m) = false := decide_eq_false (by have h4 := HE.out; omega)
          have tB : decide ((m : Int) < (e : Int)) = false := decide_eq_false (by have h4 := HE.out; omega)
          have uB : decide (m < e) = false := decide_eq_false (by have h4 := HE.out; omega)
          have tL : decide ((a : Int) < (s : Int)) = true := decide_eq_true (by have h4 := HE.out; omega)
          have uL : decide (a < s) = true := decide_eq_true (by have h4 := HE.out; omega)
          have tC : decide ((s : Int) < (mid : Int)) = false := decide_eq_false (by have h4 := HE.out; omega)
          have uC : decide (s < mid) = false := decide_eq_false (by have h4 := HE.out; omega)
          have tD : decide ((mid : Int) < (e : Int)) = false := decide_eq_false (by have h4 := HE.out; omega)
          have uD : decide (mid < e) = false := decide_eq_false (by have h4 := HE.out; omega)
          have tR : decide ((e : Int) < (b : Int)) = true := decide_eq_true (by have h4 := HE.out; omega)
          have uR : decide (e < b) = true := decide_eq_true (by have h4 := HE.out; omega)
          have HSY := Aside0.mk (Stb.Sh.refl a b xs)
          have HKY := Aside0.mk (HCUT.out xs (fun t => by
            have h4 := HE.out
            by_cases z : s ≤ t ∧ t < mid
            · rw [if_pos z, show m - s = 0 by omega, Nat.add_zero]
            · rw [if_neg z]
              by_cases z2 : mid ≤ t ∧ t < e
              · rw [if_pos z2, show e - m = 0 by omega, Nat.sub_zero]
              · rw [if_neg z2]))
          have HBY := HB
          have HGY := HG
          have HSZ := Aside0.mk (Stb.Sh.refl a mid xs)
          have HAZ := Aside0.mk (cut_left HKY.out (by have h4 := HE.out; omega))
          have hwe := HWE.out
          go_wp2_with (first | fail)
          all_goals
            have HSV := Stb.Sh.refl mid b xs
            have HAV := cut_right HKY.out (by clear hwe; have h4 := HE.out; omega) HSZ.out
            have HX := HEND.out _ _ _ HSY.out HKY.out HSZ.out HAZ.out HSV HAV
            go_end0
            exact ⟨rfl, _, HX.1, HX.2, HBY.out, HGY.out⟩
        · have tA : decide ((s : Int) < (m : Int)) = false := decide_eq_false (by have h4 := HE.out; omega)
          have uA : decide (s < m) = false := decide_eq_false (by have h4 := HE.out; omega)
          have tB : decide ((m : Int) < (e : Int)) = false := decide_eq_false (by have h4 := HE.out; omega)
          have uB : decide (m < e) = false := decide_eq_false (by have h4 := HE.out; omega)
          have tL : decide ((a : Int) < (s : Int)) = true := decide_eq_true (by have h4 := HE.out; omega)
          have uL : decide (a < s) = true := decide_eq_true (by have h4 := HE.out; omega)
          have tC : decide ((s : Int) < (mid : Int)) = false := decide_eq_false (by have h4 := HE.out; omega)
          have uC : decide (s < mid) = false := decide_eq_false (by have h4 := HE.out; omega)
          have tD : decide ((mid : Int) < (e : Int)) = false := decide_eq_false (by have h4 := HE.out; omega)
          have uD : decide (mid < e) = false := decide_eq_false (by have h4 := HE.out; omega)
          have tR : decide ((e : Int) < (b : Int)) = false := decide_eq_false (by have h4 := HE.out; omega)
          have uR : decide (e < b) = false := decide_eq_false (by have h4 := HE.out; omega)
          have HSY := Aside0.mk (Stb.Sh.refl a b xs)
          have HKY := Aside0.mk (HCUT.out xs (fun t => by
            have h4 := HE.out
            by_cases z : s ≤ t ∧ t < mid
            · rw [if_pos z, show m - s = 0 by omega, Nat.add_zero]
            · rw [if_neg z]
              by_cases z2 : mid ≤ t ∧ t < e
              · rw [if_pos z2, show e - m = 0 by omega, Nat.sub_zero]
              · rw [if_neg z2]))
          have HBY := HB
          have HGY := HG
          have HSZ := Aside0.mk (Stb.Sh.refl a mid xs)
          have HAZ := Aside0.mk (cut_left HKY.out (by have h4 := HE.out; omega))
          have hwe := HWE.out
          go_wp2_with (first | fail)
          all_goals
            have HSV := Stb.Sh.refl mid b xs
            have HAV := cut_right HKY.out (by clear hwe; have h4 := HE.out; omega) HSZ.out
            have HX := HEND.out _ _ _ HSY.out HKY.out HSZ.out HAZ.out HSV HAV
            go_end0
            exact ⟨rfl, _, HX.1, HX.2, HBY.out, HGY.out⟩
        · have tA : decide ((s : Int) < (m : Int)) = false := decide_eq_false (by have h4 := HE.out; omega)
          have uA : decide (s < m) = false := decide_eq_false (by have h4 := HE.out; omega)
          have tB : decide ((m : Int) < (e : Int)) = false := decide_eq_false (by have h4 := HE.out; omega)
          have uB : decide (m < e) = false := decide_eq_false (by have h4 := HE.out; omega)
          have tL : decide ((a : Int) < (s : Int)) = false := decide_eq_false (by have h4 := HE.out; omega)
          have uL : decide (a < s) = false := decide_eq_false (by have h4 := HE.out; omega)
          have tC : decide ((s : Int) < (mid : Int)) = false := decide_eq_false (by have h4 := HE.out; omega)
          have uC : decide (s < mid) = false := decide_eq_false (by have h4 := HE.out; omega)
          have tD : decide ((mid : Int) < (e : Int)) = false := decide_eq_false (by have h4 := HE.out; omega)
          have uD : decide (mid < e) = false := decide_eq_false (by have h4 := HE.out; omega)
          have tR : decide ((e : Int) < (b : Int)) = true := decide_eq_true (by have h4 := HE.out; omega)
          have uR : decide (e < b) = true := decide_eq_true (by have h4 := HE.out; omega)
          have HSY := Aside0.mk (Stb.Sh.refl a b xs)
          have HKY := Aside0.mk (HCUT.out xs (fun t => by
            have h4 := HE.out
            by_cases z : s ≤ t ∧ t < mid
            · rw [if_pos z, show m - s = 0 by omega, Nat.add_zero]
            · rw [if_neg z]
              by_cases z2 : mid ≤ t ∧ t < e
              · rw [if_pos z2, show e - m = 0 by omega, Nat.sub_zero]
              · rw [if_neg z2]))
          have HBY := HB
          have HGY := HG
          have HSZ := Aside0.mk (Stb.Sh.refl a mid xs)
          have HAZ := Aside0.mk (cut_left HKY.out (by have h4 := HE.out; omega))
          have hwe := HWE.out
          go_wp2_with (first | fail)
          all_goals
            have HSV := Stb.Sh.refl mid b xs
            have HAV := cut_right HKY.out (by clear hwe; have h4 := HE.out; omega) HSZ.out
            have HX := HEND.out _ _ _ HSY.out HKY.out HSZ.out HAZ.out HSV HAV
            go_end0
            exact ⟨rfl, _, HX.1, HX.2, HBY.out, HGY.out⟩
        · have tA : decide ((s : Int) < (m : Int)) = false := decide_eq_false (by have h4 := HE.out; omega)
          have uA : decide (s < m) = false := decide_eq_false (by have h4 := HE.out; omega)
          have tB : decide ((m : Int) < (e : Int)) = false := decide_eq_false (by have h4 := HE.out; omega)
          have uB : decide (m < e) = false := decide_eq_false (by have h4 := HE.out; omega)
          have tL : decide ((a : Int) < (s : Int)) = false := decide_eq_false (by have h4 := HE.out; omega)
          have uL : decide (a < s) = false := decide_eq_false (by have h4 := HE.out; omega)
          have tC : decide ((s : Int) < (mid : Int)) = false := decide_eq_false (by have h4 := HE.out; omega)
          have uC : decide (s < mid) = false := decide_eq_false (by have h4 := HE.out; omega)
          have tD : decide ((mid : Int) < (e : Int)) = false := decide_eq_false (by have h4 := HE.out; omega)
          have uD : decide (mid < e) = false := decide_eq_false (by have h4 := HE.out; omega)
          have tR : decide ((e : Int) < (b : Int)) = false := decide_eq_false (by have h4 := HE.out; omega)
          have uR : decide (e < b) = false := decide_eq_false (by have h4 := HE.out; omega)
          have HSY := Aside0.mk (Stb.Sh.refl a b xs)
          have HKY := Aside0.mk (HCUT.out xs (fun t => by
            have h4 := HE.out
            by_cases z : s ≤ t ∧ t < mid
            · rw [if_pos z, show m - s = 0 by omega, Nat.add_zero]
            · rw [if_neg z]
              by_cases z2 : mid ≤ t ∧ t < e
              · rw [if_pos z2, show e - m = 0 by omega, Nat.sub_zero]
              · rw [if_neg z2]))
          have HBY := HB
          have HGY := HG
          have HSZ := Aside0.mk (Stb.Sh.refl a mid xs)
          have HAZ := Aside0.mk (cut_left HKY.out (by have h4 := HE.out; omega))
          have hwe := HWE.out
          go_wp2_with (first | fail)
          all_goals
            have HSV := Stb.Sh.refl mid b xs
            have HAV := cut_right HKY.out (by clear hwe; have h4 := HE.out; omega) HSZ.out
            have HX := HEND.out _ _ _ HSY.out HKY.out HSZ.out HAZ.out HSV HAV
            go_end0
            exact ⟨rfl, _, HX.1, HX.2, HBY.out, HGY.out⟩
  · have HS0 := Aside0.mk (show (m > mid ∧ a + b = mid + m ∧ m = mid) ∨ (m ≤ mid ∧ a = a ∧ m = m) by omega)
    have HSR := Aside0.mk (show a ≤ a ∧ a ≤ m ∧ m ≤ m ∧ m ≤ mid ∧ n ≤ b + a by have h1 := HAB.out; omega)
    have HST := Aside0.mk (show a ≤ a ∧ a ≤ m ∧ m ≤ m ∧ m < a + (b + 1) by have h1 := HAB.out; have h2 := HSR.out; omega)
    have g1 : decide ((mid : Int) < (m : Int)) = false := decide_eq_false (by omega)
    have g2 : decide (mid < m) = false := decide_eq_false c0
    obtain ⟨⟨f1, f2⟩, ⟨f7, f8, f9⟩, fa, fb⟩ := FF.out
    clear c0
    go_enter Tryd.func57, Tryd.ntmps57
    go_wp2
    go_loopg [20, 21] (b + 1) (fun kq v20 v21 w' => ∃ (s r : Nat), v20 = .int .i64 (s : Int) ∧ v21 = .int .i64 (r : Int) ∧ Aside0 (a ≤ s ∧ s ≤ r ∧ r ≤ m ∧ r < s + kq) ∧ Aside0 (∀ c, a ≤ c → c < s → ¬ cf (Stb.el xs (p - c)) (Stb.el xs c) < 0) ∧ Aside0 (∀ c, r ≤ c → c < m → cf (Stb.el xs (p - c)) (Stb.el xs c) < 0) ∧ Aside0 (Sb w' g cap xs) ∧ Aside0 (w.grownBy w' (some g)))
    case atStart => exact ⟨a, m, rfl, rfl, HST, ⟨fun h h1 h2 => absurd h2 (Nat.not_lt.2 h1)⟩, ⟨fun h h1 h2 => absurd h2 (Nat.not_lt.2 h1)⟩, HB0, ⟨sg_refl _ _⟩⟩
    case round =>
      clear HB0 f1 f2 f3 f4 f5 f6 f7 f8 f9 fa fb g1 g2
      obtain ⟨s, r, rfl, rfl, HI, HLO, HHI, HB, HG⟩ := hrel
      by_cases c1 : s < r
      · obtain ⟨k1, rfl⟩ : ∃ q, gk = q + 1 := ⟨gk - 1, by have h1 := HI.out; omega⟩
        obtain ⟨h, hh⟩ : ∃ h, (s + r) / 2 = h := ⟨_, rfl⟩
        obtain ⟨q, hq⟩ : ∃ q, q + h = p := ⟨p - h, by have h1 := HI.out; have h2 := HSR.out; have h3 := HAB.out; omega⟩
        have hpq : p - h = q := by omega
        have HH := Aside0.mk (show s ≤ h ∧ h < r by omega)
        have HLZ := Aside0.mk (show q < xs.length ∧ h < xs.length by rw [HN.out]; have h1 := HI.out; have h2 := HSR.out; have h3 := HAB.out; have h4 := HH.out; omega)
        have cq := HB.out.cell HLZ.out.1
        have ch := HB.out.cell HLZ.out.2
        have HCM := Aside0.mk (fun W (hW : w.grownBy W (some g)) => HC.out W hW (Stb.el xs q) (Stb.el xs h) (el_mem HLZ.out.1) (el_mem HLZ.out.2))
        have UP := Aside0.mk (show ¬ cf (Stb.el xs q) (Stb.el xs h) < 0 → ∀ u, a ≤ u → u < h + 1 → ¬ cf (Stb.el xs (p - u)) (Stb.el xs u) < 0 from fun y u u1 u2 => by
          have h1 := HI.out; have h2 := HSR.out; have h3 := HAB.out; have h4 := HH.out
          rw [← hpq] at y
          exact Stb.cut_down HCC.out HA.out HBA.out (by omega) (by omega) (by omega) (by omega) (by omega) y)
        have DN := Aside0.mk (show cf (Stb.el xs q) (Stb.el xs h) < 0 → ∀ u, h ≤ u → u < m → cf (Stb.el xs (p - u)) (Stb.el xs u) < 0 from fun y u u1 u2 => by
          have h1 := HI.out; have h2 := HSR.out; have h3 := HAB.out; have h4 := HH.out
          rw [← hpq] at y
          exact Stb.cut_up HCC.out HA.out HBA.out (by omega) (by omega) (by omega) (by omega) (by omega) y)
        have pj : (0 ≤ (h : Int)) = True := eq_true (by omega)
        have qj : ((h : Int) < (N : Int)) = True := eq_true (by have h1 := HLZ.out; rw [HN.out] at h1; omega)
        have pa : (0 ≤ (q : Int)) = True := eq_true (by omega)
        have qa : ((q : Int) < (N : Int)) = True := eq_true (by have h1 := HLZ.out; rw [HN.out] at h1; omega)
        have c1b : decide ((s : Int) < (r : Int)) = true := decide_eq_true (by omega)
        have c1n : decide (s < r) = true := decide_eq_true c1
        have HI2 := Aside0.mk (show (a ≤ h + 1 ∧ h + 1 ≤ r ∧ r ≤ m ∧ r < h + 1 + k1) ∧ (a ≤ s ∧ s ≤ h ∧ h ≤ m ∧ h < s + k1) by have h1 := HI.out; have h4 := HH.out; omega)
        have FW := Aside0.mk (show (wrap64 ((s : Int) + (r : Int)) = (s : Int) + (r : Int) ∧ IntKind.u64.wrap ((s : Int) + (r : Int)) / 2 = (h : Int) ∧ wrap64 (h : Int) = (h : Int)) ∧ wrap64 ((h : Int) + 1) = ((h + 1 : Nat) : Int) ∧ wrap64 ((p : Int) - (h : Int)) = (q : Int) ∧ IntKind.i64.wrap ((p : Int) - (h : Int)) = (q : Int) from by
          have h1 := HI.out; have h2 := HSR.out; have h3 := HAB.out; have h4 := HH.out
          exact ⟨sw_half hh (by omega) (by omega), by rw [sw_id (by omega) (by omega)]; omega, by rw [sw_id (by omega) (by omega)]; omega, by rw [sw_id2 (by omega) (by omega)]; omega⟩)
        obtain ⟨⟨hw1, hw2, hw3⟩, hw4, hw5, hw6⟩ := FW.out
        clear hh c1 hq hpq
        obtain ⟨y, hy⟩ : ∃ y, cf (Stb.el xs q) (Stb.el xs h) = y := ⟨_, rfl⟩
        rw [hy] at HCM UP DN
        clear hy
        generalize (Stb.el xs h).1 = xh at *
        generalize (Stb.el xs q).1 = xq at *
        by_cases hy : y < 0
        · have hyb : decide (y < 0) = true := decide_eq_true hy
          have U2 := Aside0.mk (DN.out hy)
          clear hy UP DN HHI
          go_wp2_with fail
          go_region_held3 (fun w' => w'.cell? ⟨g, q, none⟩ = some (.string xq) ∧ w'.cell? ⟨g, h, none⟩ = some (.string xh) ∧ Aside0 (Below wr.heap.size wr w'))
            (first | assumption | exact ⟨by first | assumption | go_keep, by first | assumption | go_keep, ⟨(Below.refl _ _).drew⟩⟩)
            (first | (go_at_call 52; have hX := (And.right (And.right ‹_ ∧ _ ∧ Aside0 (Below wr.heap.size wr _)›)); (with_reducible refine (HCM.out _ (sg_below HG.out hX.out)).mono ?_); rintro e w1 ⟨rfl, hb⟩; have hbb := below_step hX.out hb; have hnew := And.intro (pw_cell_below hbb cq) (And.intro (pw_cell_below hbb ch) (Aside0.mk hbb)); clear hb hbb))
          have hbb := (And.right (And.right ‹w1.cell? _ = _ ∧ _ ∧ Aside0 (Below wr.heap.size wr w1)›)).out
          have HB1 := Aside0.mk (HB.out.below hbb)
          have HG3 := Aside0.mk (sg_below HG.out hbb)
          clear hX hbb cq ch HB HG
          rename_i hHeld
          clear hHeld hnew
          go_wp2
          go_roundg k1
          case measure => omega
          case rel => exact ⟨s, h, rfl, rfl, ⟨HI2.out.2⟩, HLO, U2, HB1, HG3⟩
        · have hyb : decide (y < 0) = false := decide_eq_false hy
          have U2 := Aside0.mk (UP.out hy)
          clear hy UP DN HLO
          go_wp2_with fail
          go_region_held3 (fun w' => w'.cell? ⟨g, q, none⟩ = some (.string xq) ∧ w'.cell? ⟨g, h, none⟩ = some (.string xh) ∧ Aside0 (Below wr.heap.size wr w'))
            (first | assumption | exact ⟨by first | assumption | go_keep, by first | assumption | go_keep, ⟨(Below.refl _ _).drew⟩⟩)
            (first | (go_at_call 52; have hX := (And.right (And.right ‹_ ∧ _ ∧ Aside0 (Below wr.heap.size wr _)›)); (with_reducible refine (HCM.out _ (sg_below HG.out hX.out)).mono ?_); rintro e w1 ⟨rfl, hb⟩; have hbb := below_step hX.out hb; have hnew := And.intro (pw_cell_below hbb cq) (And.intro (pw_cell_below hbb ch) (Aside0.mk hbb)); clear hb hbb))
          have hbb := (And.right (And.right ‹w1.cell? _ = _ ∧ _ ∧ Aside0 (Below wr.heap.size wr w1)›)).out
          have HB1 := Aside0.mk (HB.out.below hbb)
          have HG3 := Aside0.mk (sg_below HG.out hbb)
          clear hX hbb cq ch HB HG
          rename_i hHeld
          clear hHeld hnew
          go_wp2
          go_roundg k1
          case measure => omega
          case rel => exact ⟨h + 1, r, (by first | rfl | rw [hw4]), rfl, ⟨HI2.out.1⟩, U2, HHI, HB1, HG3⟩
      · have c1b : decide ((s : Int) < (r : Int)) = false := decide_eq_false (by omega)
        have c1n : decide (s < r) = false := decide_eq_false c1
        obtain rfl : s = r := by have h1 := HI.out; omega
        obtain ⟨e, he⟩ : ∃ e, e + s = n := ⟨n - s, by have h1 := HI.out; have h2 := HSR.out; have h3 := HAB.out; omega⟩
        have HWE := Aside0.mk (show wrap64 ((n : Int) - (s : Int)) = (e : Int) by have h1 := HI.out; have h2 := HSR.out; have h3 := HAB.out; rw [sw_id (by omega) (by omega)]; omega)
        have HE := Aside0.mk (show e + s = mid + m ∧ a ≤ s ∧ s ≤ m ∧ s ≤ mid ∧ m ≤ e ∧ mid ≤ e ∧ e ≤ b by have h1 := HI.out; have h2 := HSR.out; have h3 := HAB.out; omega)
        have HCUT := Aside0.mk (show ∀ ys : List Tg, (∀ t, Stb.el ys t = if s ≤ t ∧ t < mid then Stb.el xs (t + (m - s)) else if mid ≤ t ∧ t < e then Stb.el xs (t - (e - m)) else Stb.el xs t) → Stb.Cut cf Prod.snd ys a s mid e b from fun ys E => by
          have h1 := HI.out; have h2 := HSR.out; have h3 := HAB.out; have h4 := HE.out; have h5 := HN.out
          have hpn : p = mid + m - 1 := by omega
          have hlo := HLO.out; have hhi := HHI.out
          rw [hpn] at hlo hhi
          exact Stb.cut_made HCC.out (by omega) h3.2.2.2.2.1 h4.1 (by have := HS0.out; omega) h1.1 h1.2.2.1 hlo hhi HA.out HBA.out HT.out E)
        clear c1 he HLO HHI HI HS0 HSR
        have HLEFT := Aside0.mk (show ∀ ys : List Tg, Stb.Sh a b xs ys → Stb.Cut cf Prod.snd ys a s mid e b → a < s → s < mid → ∀ W, Sb W g cap ys → w.grownBy W (some g) → Calls Tryd.prog 57 #[.slice (some ⟨g, 0, none⟩) N cap, .int .i64 a, .int .i64 s, .int .i64 mid, .func (.func 52) #[] #[.pointer (some ⟨bw, 0, none⟩)]] W fun e w' => e = .returned (.tuple #[]) ∧ ∃ zs, Stb.Sh a mid ys zs ∧ Stb.Asc cf Prod.snd zs a mid ∧ Sb w' g cap zs ∧ W.grownBy w' (some g) from fun ys hS hK k1 k2 W hW hg => by
          have h3 := HAB.out; have hl := hS.len; have h5 := HN.out
          have := HIH.out hW (HC.out.grown hg hS.perm) a s mid k1 k2 (by omega) (by omega) (by omega) hK.l1 hK.r1 hK.t1
          rw [show ys.length = N by omega] at this
          exact this)
        have HRIGHT := Aside0.mk (show ∀ ys zs : List Tg, Stb.Sh a b xs ys → Stb.Sh a mid ys zs → Stb.Cut cf Prod.snd ys a s mid e b → mid < e → e < b → ∀ W, Sb W g cap zs → w.grownBy W (some g) → Calls Tryd.prog 57 #[.slice (some ⟨g, 0, none⟩) N cap, .int .i64 mid, .int .i64 e, .int .i64 b, .func (.func 52) #[] #[.pointer (some ⟨bw, 0, none⟩)]] W fun e w' => e = .returned (.tuple #[]) ∧ ∃ vs, Stb.Sh mid b zs vs ∧ Stb.Asc cf Prod.snd vs mid b ∧ Sb w' g cap vs ∧ W.grownBy w' (some g) from fun ys zs hS hZ hK k1 k2 W hW hg => by
          have h3 := HAB.out; have hl := hS.len; have h5 := HN.out; have hl2 := hZ.len
          have o : ∀ t, mid ≤ t → Stb.el zs t = Stb.el ys t := fun t ht => hZ.out t (.inr ht)
          have := HIH.out hW (HC.out.grown hg (hZ.perm.trans hS.perm)) mid e b k1 k2 (by omega) (by omega) (by omega) (fun i j i1 ij j1 => by rw [o i i1, o j (by omega)]; exact hK.l2 i j i1 ij j1) (fun i j i1 ij j1 => by rw [o i (by omega), o j (by omega)]; exact hK.r2 i j i1 ij j1) (fun i j i1 i2 j1 j2 => by rw [o i i1, o j (by omega)]; exact hK.t2 i j i1 i2 j1 j2)
          rw [show zs.length = N by omega] at this
          exact this)
        have HEND := Aside0.mk (show ∀ ys zs vs : List Tg, Stb.Sh a b xs ys → Stb.Cut cf Prod.snd ys a s mid e b → Stb.Sh a mid ys zs → Stb.Asc cf Prod.snd zs a mid → Stb.Sh mid b zs vs → Stb.Asc cf Prod.snd vs mid b → Stb.Sh a b xs vs ∧ Stb.Asc cf Prod.snd vs a b from fun ys zs vs h1 h2 h3 h4 h5 h6 =>
          ⟨(h1.trans (h3.mono (Nat.le_refl _) (by have h := HAB.out; omega))).trans (h5.mono (by have h := HAB.out; omega) (Nat.le_refl _)), Stb.cut_joined h2.lt h3 h4 h5 h6⟩)
        by_cases qA : s < m <;> by_cases qB : s < mid <;> by_cases qL : a < s <;> by_cases qR : e < b
        · have tA : decide ((s : Int) < (m : Int)) = true := decide_eq_true (by have h4 := HE.out; omega)
          have uA : decide (s < m) = true := decide_eq_true (by have h4 := HE.out; omega)
          have tB : decide ((m : Int) < (e : Int)) = true := decide_eq_true (by have h4 := HE.out; omega)
          have uB : decide (m < e) = true := decide_eq_true (by have h4 := HE.out; omega)
          have tL : decide ((a : Int) < (s : Int)) = true := decide_eq_true (by have h4 := HE.out; omega)
          have uL : decide (a < s) = true := decide_eq_true (by have h4 := HE.out; omega)
          have tC : decide ((s : Int) < (mid : Int)) = true := decide_eq_true (by have h4 := HE.out; omega)
          have uC : decide (s < mid) = true := decide_eq_true (by have h4 := HE.out; omega)
          have tD : decide ((mid : Int) < (e : Int)) = true := decide_eq_true (by have h4 := HE.out; omega)
          have uD : decide (mid < e) = true := decide_eq_true (by have h4 := HE.out; omega)
          have tR : decide ((e : Int) < (b : Int)) = true := decide_eq_true (by have h4 := HE.out; omega)
          have uR : decide (e < b) = true := decide_eq_true (by have h4 := HE.out; omega)
          obtain ⟨i0, hi0⟩ : ∃ q, s + q = m := ⟨m - s, by omega⟩
          obtain ⟨j0, hj0⟩ : ∃ q, m + q = e := ⟨e - m, by have h4 := HE.out; omega⟩
          have HROT := Aside0.mk (rot_calls HB.out s m e i0 j0 (by omega) (by have h4 := HE.out; omega) hi0 hj0 (by have h4 := HE.out; have h3 := HAB.out; have h5 := HN.out; omega) (by have h3 := HAB.out; have h5 := HN.out; omega) (.func (.func 52) #[] #[.pointer (some ⟨bw, 0, none⟩)]))
          rw [HN.out] at HROT
          have HSY := Aside0.mk (Stb.rot_sh m a b (i0 + j0) xs s i0 j0 (Nat.le_refl _) (by omega) (by have h4 := HE.out; omega) hi0 (by have h4 := HE.out; omega) (by have h4 := HE.out; omega) (by have h3 := HAB.out; have h5 := HN.out; omega))
          have HKY := Aside0.mk (HCUT.out (Stb.rot m (i0 + j0) xs i0 j0) (fun t => by
            have h4 := HE.out; have h3 := HAB.out; have h5 := HN.out
            rw [Stb.rot_el m (i0 + j0) xs s i0 j0 (Nat.le_refl _) (by omega) (by omega) hi0 (by omega) t, show s + j0 = mid by omega, show m + j0 = e by omega, show m - s = i0 by omega, show e - m = j0 by omega]))
          generalize Stb.rot m (i0 + j0) xs i0 j0 = ys at HROT HSY HKY
          clear hi0 hj0 HB
          have HL2 := Aside0.mk (HLEFT.out ys HSY.out HKY.out qL qB)
          have ME := Aside0.mk (show mid < e by have h4 := HE.out; omega)
          have HR2 := Aside0.mk (fun zs => HRIGHT.out ys zs HSY.out)
          have hwe := HWE.out
          go_wp2_with (first | (go_at_call 59; (with_reducible refine HROT.out.mono ?_); rintro e w1 ⟨rfl, hb, hg⟩; have HBY := Aside0.mk hb; have HGY := Aside0.mk (sg_trans HG.out hg); clear hb hg) | (go_at_call 57; (with_reducible refine (HL2.out _ HBY.out HGY.out).mono ?_); rintro e w2 ⟨rfl, zs, hs, ha, hb, hg⟩; have HSZ := Aside0.mk hs; have HAZ := Aside0.mk ha; have HBZ := Aside0.mk hb; have HGZ := Aside0.mk (sg_trans HGY.out hg); clear hs ha hb hg) | (go_at_call 57; (with_reducible refine (HR2.out _ HSZ.out HKY.out ME.out qR _ HBZ.out HGZ.out).mono ?_); rintro e w3 ⟨rfl, vs, hs, ha, hb, hg⟩; have HSV := Aside0.mk hs; have HAV := Aside0.mk ha; have HBV := Aside0.mk hb; have HGV := Aside0.mk (sg_trans HGZ.out hg); clear hs ha hb hg))
          all_goals
            have HX := HEND.out _ _ _ HSY.out HKY.out HSZ.out HAZ.out HSV.out HAV.out
            go_end0
            exact ⟨rfl, _, HX.1, HX.2, HBV.out, HGV.out⟩
        · have tA : decide ((s : Int) < (m : Int)) = true := decide_eq_true (by have h4 := HE.out; omega)
          have uA : decide (s < m) = true := decide_eq_true (by have h4 := HE.out; omega)
          have tB : decide ((m : Int) < (e : Int)) = true := decide_eq_true (by have h4 := HE.out; omega)
          have uB : decide (m < e) = true := decide_eq_true (by have h4 := HE.out; omega)
          have tL : decide ((a : Int) < (s : Int)) = true := decide_eq_true (by have h4 := HE.out; omega)
          have uL : decide (a < s) = true := decide_eq_true (by have h4 := HE.out; omega)
          have tC : decide ((s : Int) < (mid : Int)) = true := decide_eq_true (by have h4 := HE.out; omega)
          have uC : decide (s < mid) = true := decide_eq_true (by have h4 := HE.out; omega)
          have tD : decide ((mid : Int) < (e : Int)) = true := decide_eq_true (by have h4 := HE.out; omega)
          have uD : decide (mid < e) = true := decide_eq_true (by have h4 := HE.out; omega)
          have tR : decide ((e : Int) < (b : Int)) = false := decide_eq_false (by have h4 := HE.out; omega)
          have uR : decide (e < b) = false := decide_eq_false (by have h4 := HE.out; omega)
          obtain ⟨i0, hi0⟩ : ∃ q, s + q = m := ⟨m - s, by omega⟩
          obtain ⟨j0, hj0⟩ : ∃ q, m + q = e := ⟨e - m, by have h4 := HE.out; omega⟩
          have HROT := Aside0.mk (rot_calls HB.out s m e i0 j0 (by omega) (by have h4 := HE.out; omega) hi0 hj0 (by have h4 := HE.out; have h3 := HAB.out; have h5 := HN.out; omega) (by have h3 := HAB.out; have h5 := HN.out; omega) (.func (.func 52) #[] #[.pointer (some ⟨bw, 0, none⟩)]))
          rw [HN.out] at HROT
          have HSY := Aside0.mk (Stb.rot_sh m a b (i0 + j0) xs s i0 j0 (Nat.le_refl _) (by omega) (by have h4 := HE.out; omega) hi0 (by have h4 := HE.out; omega) (by have h4 := HE.out; omega) (by have h3 := HAB.out; have h5 := HN.out; omega))
          have HKY := Aside0.mk (HCUT.out (Stb.rot m (i0 + j0) xs i0 j0) (fun t => by
            have h4 := HE.out; have h3 := HAB.out; have h5 := HN.out
            rw [Stb.rot_el m (i0 + j0) xs s i0 j0 (Nat.le_refl _) (by omega) (by omega) hi0 (by omega) t, show s + j0 = mid by omega, show m + j0 = e by omega, show m - s = i0 by omega, show e - m = j0 by omega]))
          generalize Stb.rot m (i0 + j0) xs i0 j0 = ys at HROT HSY HKY
          clear hi0 hj0 HB
          have HL2 := Aside0.mk (HLEFT.out ys HSY.out HKY.out qL qB)
          have hwe := HWE.out
          go_wp2_with (first | (go_at_call 59; (with_reducible refine HROT.out.mono ?_); rintro e w1 ⟨rfl, hb, hg⟩; have HBY := Aside0.mk hb; have HGY := Aside0.mk (sg_trans HG.out hg); clear hb hg) | (go_at_call 57; (with_reducible refine (HL2.out _ HBY.out HGY.out).mono ?_); rintro e w2 ⟨rfl, zs, hs, ha, hb, hg⟩; have HSZ := Aside0.mk hs; have HAZ := Aside0.mk ha; have HBZ := Aside0.mk hb; have HGZ := Aside0.mk (sg_trans HGY.out hg); clear hs ha hb hg))
          all_goals
            have HSV := Stb.Sh.refl mid b zs
            have HAV := cut_right HKY.out (by clear hwe; have h4 := HE.out; omega) HSZ.out
            have HX := HEND.out _ _ _ HSY.out HKY.out HSZ.out HAZ.out HSV HAV
            go_end0
            exact ⟨rfl, _, HX.1, HX.2, HBZ.out, HGZ.out⟩
        · have tA : decide ((s : Int) < (m : Int)) = true := decide_eq_true (by have h4 := HE.out; omega)
          have uA : decide (s < m) = true := decide_eq_true (by have h4 := HE.out; omega)
          have tB : decide ((m : Int) < (e : Int)) = true := decide_eq_true (by have h4 := HE.out; omega)
          have uB : decide (m < e) = true := decide_eq_true (by have h4 := HE.out; omega)
          have tL : decide ((a : Int) < (s : Int)) = false := decide_eq_false (by have h4 := HE.out; omega)
          have uL : decide (a < s) = false := decide_eq_false (by have h4 := HE.out; omega)
          have tC : decide ((s : Int) < (mid : Int)) = true := decide_eq_true (by have h4 := HE.out; omega)
          have uC : decide (s < mid) = true := decide_eq_true (by have h4 := HE.out; omega)
          have tD : decide ((mid : Int) < (e : Int)) = true := decide_eq_true (by have h4 := HE.out; omega)
          have uD : decide (mid < e) = true := decide_eq_true (by have h4 := HE.out; omega)
          have tR : decide ((e : Int) < (b : Int)) = true := decide_eq_true (by have h4 := HE.out; omega)
          have uR : decide (e < b) = true := decide_eq_true (by have h4 := HE.out; omega)
          obtain ⟨i0, hi0⟩ : ∃ q, s + q = m := ⟨m - s, by omega⟩
          obtain ⟨j0, hj0⟩ : ∃ q, m + q = e := ⟨e - m, by have h4 := HE.out; omega⟩
          have HROT := Aside0.mk (rot_calls HB.out s m e i0 j0 (by omega) (by have h4 := HE.out; omega) hi0 hj0 (by have h4 := HE.out; have h3 := HAB.out; have h5 := HN.out; omega) (by have h3 := HAB.out; have h5 := HN.out; omega) (.func (.func 52) #[] #[.pointer (some ⟨bw, 0, none⟩)]))
          rw [HN.out] at HROT
          have HSY := Aside0.mk (Stb.rot_sh m a b (i0 + j0) xs s i0 j0 (Nat.le_refl _) (by omega) (by have h4 := HE.out; omega) hi0 (by have h4 := HE.out; omega) (by have h4 := HE.out; omega) (by have h3 := HAB.out; have h5 := HN.out; omega))
          have HKY := Aside0.mk (HCUT.out (Stb.rot m (i0 + j0) xs i0 j0) (fun t => by
            have h4 := HE.out; have h3 := HAB.out; have h5 := HN.out
            rw [Stb.rot_el m (i0 + j0) xs s i0 j0 (Nat.le_refl _) (by omega) (by omega) hi0 (by omega) t, show s + j0 = mid by omega, show m + j0 = e by omega, show m - s = i0 by omega, show e - m = j0 by omega]))
          generalize Stb.rot m (i0 + j0) xs i0 j0 = ys at HROT HSY HKY
          clear hi0 hj0 HB
          have HSZ := Aside0.mk (Stb.Sh.refl a mid ys)
          have HAZ := Aside0.mk (cut_left HKY.out (by have h4 := HE.out; omega))
          have ME := Aside0.mk (show mid < e by have h4 := HE.out; omega)
          have HR2 := Aside0.mk (fun zs => HRIGHT.out ys zs HSY.out)
          have hwe := HWE.out
          go_wp2_with (first | (go_at_call 59; (with_reducible refine HROT.out.mono ?_); rintro e w1 ⟨rfl, hb, hg⟩; have HBY := Aside0.mk hb; have HGY := Aside0.mk (sg_trans HG.out hg); clear hb hg) | (go_at_call 57; (with_reducible refine (HR2.out _ HSZ.out HKY.out ME.out qR _ HBY.out HGY.out).mono ?_); rintro e w3 ⟨rfl, vs, hs, ha, hb, hg⟩; have HSV := Aside0.mk hs; have HAV := Aside0.mk ha; have HBV := Aside0.mk hb; have HGV := Aside0.mk (sg_trans HGY.out hg); clear hs ha hb hg))
          all_goals
            have HX := HEND.out _ _ _ HSY.out HKY.out HSZ.out HAZ.out HSV.out HAV.out
            go_end0
            exact ⟨rfl, _, HX.1, HX.2, HBV.out, HGV.out⟩
        · have tA : decide ((s : Int) < (m : Int)) = true := decide_eq_true (by have h4 := HE.out; omega)
          have uA : decide (s < m) = true := decide_eq_true (by have h4 := HE.out; omega)
          have tB : decide ((m : Int) < (e : Int)) = true := decide_eq_true (by have h4 := HE.out; omega)
          have uB : decide (m < e) = true := decide_eq_true (by have h4 := HE.out; omega)
          have tL : decide ((a : Int) < (s : Int)) = false := decide_eq_false (by have h4 := HE.out; omega)
          have uL : decide (a < s) = false := decide_eq_false (by have h4 := HE.out; omega)
          have tC : decide ((s : Int) < (mid : Int)) = true := decide_eq_true (by have h4 := HE.out; omega)
          have uC : decide (s < mid) = true := decide_eq_true (by have h4 := HE.out; omega)
          have tD : decide ((mid : Int) < (e : Int)) = true := decide_eq_true (by have h4 := HE.out; omega)
          have uD : decide (mid < e) = true := decide_eq_true (by have h4 := HE.out; omega)
          have tR : decide ((e : Int) < (b : Int)) = false := decide_eq_false (by have h4 := HE.out; omega)
          have uR : decide (e < b) = false := decide_eq_false (by have h4 := HE.out; omega)
          obtain ⟨i0, hi0⟩ : ∃ q, s + q = m := ⟨m - s, by omega⟩
          obtain ⟨j0, hj0⟩ : ∃ q, m + q = e := ⟨e - m, by have h4 := HE.out; omega⟩
          have HROT := Aside0.mk (rot_calls HB.out s m e i0 j0 (by omega) (by have h4 := HE.out; omega) hi0 hj0 (by have h4 := HE.out; have h3 := HAB.out; have h5 := HN.out; omega) (by have h3 := HAB.out; have h5 := HN.out; omega) (.func (.func 52) #[] #[.pointer (some ⟨bw, 0, none⟩)]))
          rw [HN.out] at HROT
          have HSY := Aside0.mk (Stb.rot_sh m a b (i0 + j0) xs s i0 j0 (Nat.le_refl _) (by omega) (by have h4 := HE.out; omega) hi0 (by have h4 := HE.out; omega) (by have h4 := HE.out; omega) (by have h3 := HAB.out; have h5 := HN.out; omega))
          have HKY := Aside0.mk (HCUT.out (Stb.rot m (i0 + j0) xs i0 j0) (fun t => by
            have h4 := HE.out; have h3 := HAB.out; have h5 := HN.out
            rw [Stb.rot_el m (i0 + j0) xs s i0 j0 (Nat.le_refl _) (by omega) (by omega) hi0 (by omega) t, show s + j0 = mid by omega, show m + j0 = e by omega, show m - s = i0 by omega, show e - m = j0 by omega]))
          generalize Stb.rot m (i0 + j0) xs i0 j0 = ys at HROT HSY HKY
          clear hi0 hj0 HB
          have HSZ := Aside0.mk (Stb.Sh.refl a mid ys)
          have HAZ := Aside0.mk (cut_left HKY.out (by have h4 := HE.out; omega))
          have hwe := HWE.out
          go_wp2_with (first | (go_at_call 59; (with_reducible refine HROT.out.mono ?_); rintro e w1 ⟨rfl, hb, hg⟩; have HBY := Aside0.mk hb; have HGY := Aside0.mk (sg_trans HG.out hg); clear hb hg))
          all_goals
            have HSV := Stb.Sh.refl mid b ys
            have HAV := cut_right HKY.out (by clear hwe; have h4 := HE.out; omega) HSZ.out
            have HX := HEND.out _ _ _ HSY.out HKY.out HSZ.out HAZ.out HSV HAV
            go_end0
            exact ⟨rfl, _, HX.1, HX.2, HBY.out, HGY.out⟩
        · have tA : decide ((s : Int) < (m : Int)) = true := decide_eq_true (by have h4 := HE.out; omega)
          have uA : decide (s < m) = true := decide_eq_true (by have h4 := HE.out; omega)
          have tB : decide ((m : Int) < (e : Int)) = false := decide_eq_false (by have h4 := HE.out; omega)
          have uB : decide (m < e) = false := decide_eq_false (by have h4 := HE.out; omega)
          have tL : decide ((a : Int) < (s : Int)) = true := decide_eq_true (by have h4 := HE.out; omega)
          have uL : decide (a < s) = true := decide_eq_true (by have h4 := HE.out; omega)
          have tC : decide ((s : Int) < (mid : Int)) = false := decide_eq_false (by have h4 := HE.out; omega)
          have uC : decide (s < mid) = false := decide_eq_false (by have h4 := HE.out; omega)
          have tD : decide ((mid : Int) < (e : Int)) = true := decide_eq_true (by have h4 := HE.out; omega)
          have uD : decide (mid < e) = true := decide_eq_true (by have h4 := HE.out; omega)
          have tR : decide ((e : Int) < (b : Int)) = true := decide_eq_true (by have h4 := HE.out; omega)
          have uR : decide (e < b) = true := decide_eq_true (by have h4 := HE.out; omega)
          have HSY := Aside0.mk (Stb.Sh.refl a b xs)
          have HKY := Aside0.mk (HCUT.out xs (fun t => by
            have h4 := HE.out
            by_cases z : s ≤ t ∧ t < mid
            · rw [if_pos z, show m - s = 0 by omega, Nat.add_zero]
            · rw [if_neg z]
              by_cases z2 : mid ≤ t ∧ t < e
              · rw [if_pos z2, show e - m = 0 by omega, Nat.sub_zero]
              · rw [if_neg z2]))
          have HBY := HB
          have HGY := HG
          have HSZ := Aside0.mk (Stb.Sh.refl a mid xs)
          have HAZ := Aside0.mk (cut_left HKY.out (by have h4 := HE.out; omega))
          have ME := Aside0.mk (show mid < e by have h4 := HE.out; omega)
          have HR2 := Aside0.mk (fun zs => HRIGHT.out xs zs HSY.out)
          have hwe := HWE.out
          go_wp2_with (first | (go_at_call 57; (with_reducible refine (HR2.out _ HSZ.out HKY.out ME.out qR _ HBY.out HGY.out).mono ?_); rintro e w3 ⟨rfl, vs, hs, ha, hb, hg⟩; have HSV := Aside0.mk hs; have HAV := Aside0.mk ha; have HBV := Aside0.mk hb; have HGV := Aside0.mk (sg_trans HGY.out hg); clear hs ha hb hg))
          all_goals
            have HX := HEND.out _ _ _ HSY.out HKY.out HSZ.out HAZ.out HSV.out HAV.out
            go_end0
            exact ⟨rfl, _, HX.1, HX.2, HBV.out, HGV.out⟩
        · have tA : decide ((s : Int) < (m : Int)) = true := decide_eq_true (by have h4 := HE.out; omega)
          have uA : decide (s < m) = true := decide_eq_true (by have h4 := HE.out; omega)
          have tB : decide ((m : Int) < (e : Int)) = false := decide_eq_false (by have h4 := HE.out; omega)
          have uB : decide (m < e) = false := decide_eq_false (by have h4 := HE.out; omega)
          have tL : decide ((a : Int) < (s : Int)) = true := decide_eq_true (by have h4 := HE.out; omega)
          have uL : decide (a < s) = true := decide_eq_true (by have h4 := HE.out; omega)
          have tC : decide ((s : Int) < (mid : Int)) = false := decide_eq_false (by have h4 := HE.out; omega)
          have uC : decide (s < mid) = false := decide_eq_false (by have h4 := HE.out; omega)
          have tD : decide ((mid : Int) < (e : Int)) = true := decide_eq_true (by have h4 := HE.out; omega)
          have uD : decide (mid < e) = true := decide_eq_true (by have h4 := HE.out; omega)
          have tR : decide ((e : Int) < (b : Int)) = false := decide_eq_false (by have h4 := HE.out; omega)
          have uR : decide (e < b) = false := decide_eq_false (by have h4 := HE.out; omega)
          have HSY := Aside0.mk (Stb.Sh.refl a b xs)
          have HKY := Aside0.mk (HCUT.out xs (fun t => by
            have h4 := HE.out
            by_cases z : s ≤ t ∧ t < mid
            · rw [if_pos z, show m - s = 0 by omega, Nat.add_zero]
            · rw [if_neg z]
              by_cases z2 : mid ≤ t ∧ t < e
              · rw [if_pos z2, show e - m = 0 by omega, Nat.sub_zero]
              · rw [if_neg z2]))
          have HBY := HB
          have HGY := HG
          have HSZ := Aside0.mk (Stb.Sh.refl a mid xs)
          have HAZ := Aside0.mk (cut_left HKY.out (by have h4 := HE.out; omega))
          have hwe := HWE.out
          go_wp2_with (first | fail)
          all_goals
            have HSV := Stb.Sh.refl mid b xs
            have HAV := cut_right HKY.out (by clear hwe; have h4 := HE.out; omega) HSZ.out
            have HX := HEND.out _ _ _ HSY.out HKY.out HSZ.out HAZ.out HSV HAV
            go_end0
            exact ⟨rfl, _, HX.1, HX.2, HBY.out, HGY.out⟩
        · have tA : decide ((s : Int) < (m : Int)) = true := decide_eq_true (by have h4 := HE.out; omega)
          have uA : decide (s < m) = true := decide_eq_true (by have h4 := HE.out; omega)
          have tB : decide ((m : Int) < (e : Int)) = false := decide_eq_false (by have h4 := HE.out; omega)
          have uB : decide (m < e) = false := decide_eq_false (by have h4 := HE.out; omega)
          have tL : decide ((a : Int) < (s : Int)) = false := decide_eq_false (by have h4 := HE.out; omega)
          have uL : decide (a < s) = false := decide_eq_false (by have h4 := HE.out; omega)
          have tC : decide ((s : Int) < (mid : Int)) = false := decide_eq_false (by have h4 := HE.out; omega)
          have uC : decide (s < mid) = false := decide_eq_false (by have h4 := HE.out; omega)
          have tD : decide ((mid : Int) < (e : Int)) = true := decide_eq_true (by have h4 := HE.out; omega)
          have uD : decide (mid < e) = true := decide_eq_true (by have h4 := HE.out; omega)
          have tR : decide ((e : Int) < (b : Int)) = true := decide_eq_true (by have h4 := HE.out; omega)
          have uR : decide (e < b) = true := decide_eq_true (by have h4 := HE.out; omega)
          have HSY := Aside0.mk (Stb.Sh.refl a b xs)
          have HKY := Aside0.mk (HCUT.out xs (fun t => by
            have h4 := HE.out
            by_cases z : s ≤ t ∧ t < mid
            · rw [if_pos z, show m - s = 0 by omega, Nat.add_zero]
            · rw [if_neg z]
              by_cases z2 : mid ≤ t ∧ t < e
              · rw [if_pos z2, show e - m = 0 by omega, Nat.sub_zero]
              · rw [if_neg z2]))
          have HBY := HB
          have HGY := HG
          have HSZ := Aside0.mk (Stb.Sh.refl a mid xs)
          have HAZ := Aside0.mk (cut_left HKY.out (by have h4 := HE.out; omega))
          have ME := Aside0.mk (show mid < e by have h4 := HE.out; omega)
          have HR2 := Aside0.mk (fun zs => HRIGHT.out xs zs HSY.out)
          have hwe := HWE.out
          go_wp2_with (first | (go_at_call 57; (with_reducible refine (HR2.out _ HSZ.out HKY.out ME.out qR _ HBY.out HGY.out).mono ?_); rintro e w3 ⟨rfl, vs, hs, ha, hb, hg⟩; have HSV := Aside0.mk hs; have HAV := Aside0.mk ha; have HBV := Aside0.mk hb; have HGV := Aside0.mk (sg_trans HGY.out hg); clear hs ha hb hg))
          all_goals
            have HX := HEND.out _ _ _ HSY.out HKY.out HSZ.out HAZ.out HSV.out HAV.out
            go_end0
            exact ⟨rfl, _, HX.1, HX.2, HBV.out, HGV.out⟩
        · have tA : decide ((s : Int) < (m : Int)) = true := decide_eq_true (by have h4 := HE.out; omega)
          have uA : decide (s < m) = true := decide_eq_true (by have h4 := HE.out; omega)
          have tB : decide ((m : Int) < (e : Int)) = false := decide_eq_false (by have h4 := HE.out; omega)
          have uB : decide (m < e) = false := decide_eq_false (by have h4 := HE.out; omega)
          have tL : decide ((a : Int) < (s : Int)) = false := decide_eq_false (by have h4 := HE.out; omega)
          have uL : decide (a < s) = false := decide_eq_false (by have h4 := HE.out; omega)
          have tC : decide ((s : Int) < (mid : Int)) = false := decide_eq_false (by have h4 := HE.out; omega)
          have uC : decide (s < mid) = false := decide_eq_false (by have h4 := HE.out; omega)
          have tD : decide ((mid : Int) < (e : Int)) = true := decide_eq_true (by have h4 := HE.out; omega)
          have uD : decide (mid < e) = true := decide_eq_true (by have h4 := HE.out; omega)
          have tR : decide ((e : Int) < (b : Int)) = false := decide_eq_false (by have h4 := HE.out; omega)
          have uR : decide (e < b) = false := decide_eq_false (by have h4 := HE.out; omega)
          have HSY := Aside0.mk (Stb.Sh.refl a b xs)
          have HKY := Aside0.mk (HCUT.out xs (fun t => by
            have h4 := HE.out
            by_cases z : s ≤ t ∧ t < mid
            · rw [if_pos z, show m - s = 0 by omega, Nat.add_zero]
            · rw [if_neg z]
              by_cases z2 : mid ≤ t ∧ t < e
              · rw [if_pos z2, show e - m = 0 by omega, Nat.sub_zero]
              · rw [if_neg z2]))
          have HBY := HB
          have HGY := HG
          have HSZ := Aside0.mk (Stb.Sh.refl a mid xs)
          have HAZ := Aside0.mk (cut_left HKY.out (by have h4 := HE.out; omega))
          have hwe := HWE.out
          go_wp2_with (first | fail)
          all_goals
            have HSV := Stb.Sh.refl mid b xs
            have HAV := cut_right HKY.out (by clear hwe; have h4 := HE.out; omega) HSZ.out
            have HX := HEND.out _ _ _ HSY.out HKY.out HSZ.out HAZ.out HSV HAV
            go_end0
            exact ⟨rfl, _, HX.1, HX.2, HBY.out, HGY.out⟩
        · have tA : decide ((s : Int) < (m : Int)) = false := decide_eq_false (by have h4 := HE.out; omega)
          have uA : decide (s < m) = false := decide_eq_false (by have h4 := HE.out; omega)
          have tB : decide ((m : Int) < (e : Int)) = true := decide_eq_true (by have h4 := HE.out; omega)
          have uB : decide (m < e) = true := decide_eq_true (by have h4 := HE.out; omega)
          have tL : decide ((a : Int) < (s : Int)) = true := decide_eq_true (by have h4 := HE.out; omega)
          have uL : decide (a < s) = true := decide_eq_true (by have h4 := HE.out; omega)
          have tC : decide ((s : Int) < (mid : Int)) = true := decide_eq_true (by have h4 := HE.out; omega)
          have uC : decide (s < mid) = true := decide_eq_true (by have h4 := HE.out; omega)
          have tD : decide ((mid : Int) < (e : Int)) = false := decide_eq_false (by have h4 := HE.out; omega)
          have uD : decide (mid < e) = false := decide_eq_false (by have h4 := HE.out; omega)
          have tR : decide ((e : Int) < (b : Int)) = true := decide_eq_true (by have h4 := HE.out; omega)
          have uR : decide (e < b) = true := decide_eq_true (by have h4 := HE.out; omega)
          have HSY := Aside0.mk (Stb.Sh.refl a b xs)
          have HKY := Aside0.mk (HCUT.out xs (fun t => by
            have h4 := HE.out
            by_cases z : s ≤ t ∧ t < mid
            · rw [if_pos z, show m - s = 0 by omega, Nat.add_zero]
            · rw [if_neg z]
              by_cases z2 : mid ≤ t ∧ t < e
              · rw [if_pos z2, show e - m = 0 by omega, Nat.sub_zero]
              · rw [if_neg z2]))
          have HBY := HB
          have HGY := HG
          have HL2 := Aside0.mk (HLEFT.out xs HSY.out HKY.out qL qB)
          have hwe := HWE.out
          go_wp2_with (first | (go_at_call 57; (with_reducible refine (HL2.out _ HBY.out HGY.out).mono ?_); rintro e w2 ⟨rfl, zs, hs, ha, hb, hg⟩; have HSZ := Aside0.mk hs; have HAZ := Aside0.mk ha; have HBZ := Aside0.mk hb; have HGZ := Aside0.mk (sg_trans HGY.out hg); clear hs ha hb hg))
          all_goals
            have HSV := Stb.Sh.refl mid b zs
            have HAV := cut_right HKY.out (by clear hwe; have h4 := HE.out; omega) HSZ.out
            have HX := HEND.out _ _ _ HSY.out HKY.out HSZ.out HAZ.out HSV HAV
            go_end0
            exact ⟨rfl, _, HX.1, HX.2, HBZ.out, HGZ.out⟩
        · have tA : decide ((s : Int) < (m : Int)) = false := decide_eq_false (by have h4 := HE.out; omega)
          have uA : decide (s < m) = false := decide_eq_false (by have h4 := HE.out; omega)
          have tB : decide ((m : Int) < (e : Int)) = true := decide_eq_true (by have h4 := HE.out; omega)
          have uB : decide (m < e) = true := decide_eq_true (by have h4 := HE.out; omega)
          have tL : decide ((a : Int) < (s : Int)) = true := decide_eq_true (by have h4 := HE.out; omega)
          have uL : decide (a < s) = true := decide_eq_true (by have h4 := HE.out; omega)
          have tC : decide ((s : Int) < (mid : Int)) = true := decide_eq_true (by have h4 := HE.out; omega)
          have uC : decide (s < mid) = true := decide_eq_true (by have h4 := HE.out; omega)
          have tD : decide ((mid : Int) < (e : Int)) = false := decide_eq_false (by have h4 := HE.out; omega)
          have uD : decide (mid < e) = false := decide_eq_false (by have h4 := HE.out; omega)
          have tR : decide ((e : Int) < (b : Int)) = false := decide_eq_false (by have h4 := HE.out; omega)
          have uR : decide (e < b) = false := decide_eq_false (by have h4 := HE.out; omega)
          have HSY := Aside0.mk (Stb.Sh.refl a b xs)
          have HKY := Aside0.mk (HCUT.out xs (fun t => by
            have h4 := HE.out
            by_cases z : s ≤ t ∧ t < mid
            · rw [if_pos z, show m - s = 0 by omega, Nat.add_zero]
            · rw [if_neg z]
              by_cases z2 : mid ≤ t ∧ t < e
              · rw [if_pos z2, show e - m = 0 by omega, Nat.sub_zero]
              · rw [if_neg z2]))
          have HBY := HB
          have HGY := HG
          have HL2 := Aside0.mk (HLEFT.out xs HSY.out HKY.out qL qB)
          have hwe := HWE.out
          go_wp2_with (first | (go_at_call 57; (with_reducible refine (HL2.out _ HBY.out HGY.out).mono ?_); rintro e w2 ⟨rfl, zs, hs, ha, hb, hg⟩; have HSZ := Aside0.mk hs; have HAZ := Aside0.mk ha; have HBZ := Aside0.mk hb; have HGZ := Aside0.mk (sg_trans HGY.out hg); clear hs ha hb hg))
          all_goals
            have HSV := Stb.Sh.refl mid b zs
            have HAV := cut_right HKY.out (by clear hwe; have h4 := HE.out; omega) HSZ.out
            have HX := HEND.out _ _ _ HSY.out HKY.out HSZ.out HAZ.out HSV HAV
            go_end0
            exact ⟨rfl, _, HX.1, HX.2, HBZ.out, HGZ.out⟩
        · have tA : decide ((s : Int) < (m : Int)) = false := decide_eq_false (by have h4 := HE.out; omega)
          have uA : decide (s < m) = false := decide_eq_false (by have h4 := HE.out; omega)
          have tB : decide ((m : Int) < (e : Int)) = true := decide_eq_true (by have h4 := HE.out; omega)
          have uB : decide (m < e) = true := decide_eq_true (by have h4 := HE.out; omega)
          have tL : decide ((a : Int) < (s : Int)) = false := decide_eq_false (by have h4 := HE.out; omega)
          have uL : decide (a < s) = false := decide_eq_false (by have h4 := HE.out; omega)
          have tC : decide ((s : Int) < (mid : Int)) = true := decide_eq_true (by have h4 := HE.out; omega)
          have uC : decide (s < mid) = true := decide_eq_true (by have h4 := HE.out; omega)
          have tD : decide ((mid : Int) < (e : Int)) = false := decide_eq_false (by have h4 := HE.out; omega)
          have uD : decide (mid < e) = false := decide_eq_false (by have h4 := HE.out; omega)
          have tR : decide ((e : Int) < (b : Int)) = true := decide_eq_true (by have h4 := HE.out; omega)
          have uR : decide (e < b) = true := decide_eq_true (by have h4 := HE.out; omega)
          have HSY := Aside0.mk (Stb.Sh.refl a b xs)
          have HKY := Aside0.mk (HCUT.out xs (fun t => by
            have h4 := HE.out
            by_cases z : s ≤ t ∧ t < mid
            · rw [if_pos z, show m - s = 0 by omega, Nat.add_zero]
            · rw [if_neg z]
              by_cases z2 : mid ≤ t ∧ t < e
              · rw [if_pos z2, show e - m = 0 by omega, Nat.sub_zero]
              · rw [if_neg z2]))
          have HBY := HB
          have HGY := HG
          have HSZ := Aside0.mk (Stb.Sh.refl a mid xs)
          have HAZ := Aside0.mk (cut_left HKY.out (by have h4 := HE.out; omega))
          have hwe := HWE.out
          go_wp2_with (first | fail)
          all_goals
            have HSV := Stb.Sh.refl mid b xs
            have HAV := cut_right HKY.out (by clear hwe; have h4 := HE.out; omega) HSZ.out
            have HX := HEND.out _ _ _ HSY.out HKY.out HSZ.out HAZ.out HSV HAV
            go_end0
            exact ⟨rfl, _, HX.1, HX.2, HBY.out, HGY.out⟩
        · have tA : decide ((s : Int) < (m : Int)) = false := decide_eq_false (by have h4 := HE.out; omega)
          have uA : decide (s < m) = false := decide_eq_false (by have h4 := HE.out; omega)
          have tB : decide ((m : Int) < (e : Int)) = true := decide_eq_true (by have h4 := HE.out; omega)
          have uB : decide (m < e) = true := decide_eq_true (by have h4 := HE.out; omega)
          have tL : decide ((a : Int) < (s : Int)) = false := decide_eq_false (by have h4 := HE.out; omega)
          have uL : decide (a < s) = false := decide_eq_false (by have h4 := HE.out; omega)
          have tC : decide ((s : Int) < (mid : Int)) = true := decide_eq_true (by have h4 := HE.out; omega)
          have uC : decide (s < mid) = true := decide_eq_true (by have h4 := HE.out; omega)
          have tD : decide ((mid : Int) < (e : Int)) = false := decide_eq_false (by have h4 := HE.out; omega)
          have uD : decide (mid < e) = false := decide_eq_false (by have h4 := HE.out; omega)
          have tR : decide ((e : Int) < (b : Int)) = false := decide_eq_false (by have h4 := HE.out; omega)
          have uR : decide (e < b) = false := decide_eq_false (by have h4 := HE.out; omega)
          have HSY := Aside0.mk (Stb.Sh.refl a b xs)
          have HKY := Aside0.mk (HCUT.out xs (fun t => by
            have h4 := HE.out
            by_cases z : s ≤ t ∧ t < mid
            · rw [if_pos z, show m - s = 0 by omega, Nat.add_zero]
            · rw [if_neg z]
              by_cases z2 : mid ≤ t ∧ t < e
              · rw [if_pos z2, show e - m = 0 by omega, Nat.sub_zero]
              · rw [if_neg z2]))
          have HBY := HB
          have HGY := HG
          have HSZ := Aside0.mk (Stb.Sh.refl a mid xs)
          have HAZ := Aside0.mk (cut_left HKY.out (by have h4 := HE.out; omega))
          have hwe := HWE.out
          go_wp2_with (first | fail)
          all_goals
            have HSV := Stb.Sh.refl mid b xs
            have HAV := cut_right HKY.out (by clear hwe; have h4 := HE.out; omega) HSZ.out
            have HX := HEND.out _ _ _ HSY.out HKY.out HSZ.out HAZ.out HSV HAV
            go_end0
            exact ⟨rfl, _, HX.1, HX.2, HBY.out, HGY.out⟩
        · have tA : decide ((s : Int) < (m : Int)) = false := decide_eq_false (by have h4 := HE.out; omega)
          have uA : decide (s < m) = false := decide_eq_false (by have h4 := HE.out; omega)
          have tB : decide ((m : Int) < (e : Int)) = false := decide_eq_false (by have h4 := HE.out; omega)
          have uB : decide (m < e) = false := decide_eq_false (by have h4 := HE.out; omega)
          have tL : decide ((a : Int) < (s : Int)) = true := decide_eq_true (by have h4 := HE.out; omega)
          have uL : decide (a < s) = true := decide_eq_true (by have h4 := HE.out; omega)
          have tC : decide ((s : Int) < (mid : Int)) = false := decide_eq_false (by have h4 := HE.out; omega)
          have uC : decide (s < mid) = false := decide_eq_false (by have h4 := HE.out; omega)
          have tD : decide ((mid : Int) < (e : Int)) = false := decide_eq_false (by have h4 := HE.out; omega)
          have uD : decide (mid < e) = false := decide_eq_false (by have h4 := HE.out; omega)
          have tR : decide ((e : Int) < (b : Int)) = true := decide_eq_true (by have h4 := HE.out; omega)
          have uR : decide (e < b) = true := decide_eq_true (by have h4 := HE.out; omega)
          have HSY := Aside0.mk (Stb.Sh.refl a b xs)
          have HKY := Aside0.mk (HCUT.out xs (fun t => by
            have h4 := HE.out
            by_cases z : s ≤ t ∧ t < mid
            · rw [if_pos z, show m - s = 0 by omega, Nat.add_zero]
            · rw [if_neg z]
              by_cases z2 : mid ≤ t ∧ t < e
              · rw [if_pos z2, show e - m = 0 by omega, Nat.sub_zero]
              · rw [if_neg z2]))
          have HBY := HB
          have HGY := HG
          have HSZ := Aside0.mk (Stb.Sh.refl a mid xs)
          have HAZ := Aside0.mk (cut_left HKY.out (by have h4 := HE.out; omega))
          have hwe := HWE.out
          go_wp2_with (first | fail)
          all_goals
            have HSV := Stb.Sh.refl mid b xs
            have HAV := cut_right HKY.out (by clear hwe; have h4 := HE.out; omega) HSZ.out
            have HX := HEND.out _ _ _ HSY.out HKY.out HSZ.out HAZ.out HSV HAV
            go_end0
            exact ⟨rfl, _, HX.1, HX.2, HBY.out, HGY.out⟩
        · have tA : decide ((s : Int) < (m : Int)) = false := decide_eq_false (by have h4 := HE.out; omega)
          have uA : decide (s < m) = false := decide_eq_false (by have h4 := HE.out; omega)
          have tB : decide ((m : Int) < (e : Int)) = false := decide_eq_false (by have h4 := HE.out; omega)
          have uB : decide (m < e) = false := decide_eq_false (by have h4 := HE.out; omega)
          have tL : decide ((a : Int) < (s : Int)) = true := decide_eq_true (by have h4 := HE.out; omega)
          have uL : decide (a < s) = true := decide_eq_true (by have h4 := HE.out; omega)
          have tC : decide ((s : Int) < (mid : Int)) = false := decide_eq_false (by have h4 := HE.out; omega)
          have uC : decide (s < mid) = false := decide_eq_false (by have h4 := HE.out; omega)
          have tD : decide ((mid : Int) < (e : Int)) = false := decide_eq_false (by have h4 := HE.out; omega)
          have uD : decide (mid < e) = false := decide_eq_false (by have h4 := HE.out; omega)
          have tR : decide ((e : Int) < (b : Int)) = false := decide_eq_false (by have h4 := HE.out; omega)
          have uR : decide (e < b) = false := decide_eq_false (by have h4 := HE.out; omega)
          have HSY := Aside0.mk (Stb.Sh.refl a b xs)
          have HKY := Aside0.mk (HCUT.out xs (fun t => by
            have h4 := HE.out
            by_cases z : s ≤ t ∧ t < mid
            · rw [if_pos z, show m - s = 0 by omega, Nat.add_zero]
            · rw [if_neg z]
              by_cases z2 : mid ≤ t ∧ t < e
              · rw [if_pos z2, show e - m = 0 by omega, Nat.sub_zero]
              · rw [if_neg z2]))
          have HBY := HB
          have HGY := HG
          have HSZ := Aside0.mk (Stb.Sh.refl a mid xs)
          have HAZ := Aside0.mk (cut_left HKY.out (by have h4 := HE.out; omega))
          have hwe := HWE.out
          go_wp2_with (first | fail)
          all_goals
            have HSV := Stb.Sh.refl mid b xs
            have HAV := cut_right HKY.out (by clear hwe; have h4 := HE.out; omega) HSZ.out
            have HX := HEND.out _ _ _ HSY.out HKY.out HSZ.out HAZ.out HSV HAV
            go_end0
            exact ⟨rfl, _, HX.1, HX.2, HBY.out, HGY.out⟩
        · have tA : decide ((s : Int) < (m : Int)) = false := decide_eq_false (by have h4 := HE.out; omega)
          have uA : decide (s < m) = false := decide_eq_false (by have h4 := HE.out; omega)
          have tB : decide ((m : Int) < (e : Int)) = false := decide_eq_false (by have h4 := HE.out; omega)
          have uB : decide (m < e) = false := decide_eq_false (by have h4 := HE.out; omega)
          have tL : decide ((a : Int) < (s : Int)) = false := decide_eq_false (by have h4 := HE.out; omega)
          have uL : decide (a < s) = false := decide_eq_false (by have h4 := HE.out; omega)
          have tC : decide ((s : Int) < (mid : Int)) = false := decide_eq_false (by have h4 := HE.out; omega)
          have uC : decide (s < mid) = false := decide_eq_false (by have h4 := HE.out; omega)
          have tD : decide ((mid : Int) < (e : Int)) = false := decide_eq_false (by have h4 := HE.out; omega)
          have uD : decide (mid < e) = false := decide_eq_false (by have h4 := HE.out; omega)
          have tR : decide ((e : Int) < (b : Int)) = true := decide_eq_true (by have h4 := HE.out; omega)
          have uR : decide (e < b) = true := decide_eq_true (by have h4 := HE.out; omega)
          have HSY := Aside0.mk (Stb.Sh.refl a b xs)
          have HKY := Aside0.mk (HCUT.out xs (fun t => by
            have h4 := HE.out
            by_cases z : s ≤ t ∧ t < mid
            · rw [if_pos z, show m - s = 0 by omega, Nat.add_zero]
            · rw [if_neg z]
              by_cases z2 : mid ≤ t ∧ t < e
              · rw [if_pos z2, show e - m = 0 by omega, Nat.sub_zero]
              · rw [if_neg z2]))
          have HBY := HB
          have HGY := HG
          have HSZ := Aside0.mk (Stb.Sh.refl a mid xs)
          have HAZ := Aside0.mk (cut_left HKY.out (by have h4 := HE.out; omega))
          have hwe := HWE.out
          go_wp2_with (first | fail)
          all_goals
            have HSV := Stb.Sh.refl mid b xs
            have HAV := cut_right HKY.out (by clear hwe; have h4 := HE.out; omega) HSZ.out
            have HX := HEND.out _ _ _ HSY.out HKY.out HSZ.out HAZ.out HSV HAV
            go_end0
            exact ⟨rfl, _, HX.1, HX.2, HBY.out, HGY.out⟩
        · have tA : decide ((s : Int) < (m : Int)) = false := decide_eq_false (by have h4 := HE.out; omega)
          have uA : decide (s < m) = false := decide_eq_false (by have h4 := HE.out; omega)
          have tB : decide ((m : Int) < (e : Int)) = false := decide_eq_false (by have h4 := HE.out; omega)
          have uB : decide (m < e) = false := decide_eq_false (by have h4 := HE.out; omega)
          have tL : decide ((a : Int) < (s : Int)) = false := decide_eq_false (by have h4 := HE.out; omega)
          have uL : decide (a < s) = false := decide_eq_false (by have h4 := HE.out; omega)
          have tC : decide ((s : Int) < (mid : Int)) = false := decide_eq_false (by have h4 := HE.out; omega)
          have uC : decide (s < mid) = false := decide_eq_false (by have h4 := HE.out; omega)
          have tD : decide ((mid : Int) < (e : Int)) = false := decide_eq_false (by have h4 := HE.out; omega)
          have uD : decide (mid < e) = false := decide_eq_false (by have h4 := HE.out; omega)
          have tR : decide ((e : Int) < (b : Int)) = false := decide_eq_false (by have h4 := HE.out; omega)
          have uR : decide (e < b) = false := decide_eq_false (by have h4 := HE.out; omega)
          have HSY := Aside0.mk (Stb.Sh.refl a b xs)
          have HKY := Aside0.mk (HCUT.out xs (fun t => by
            have h4 := HE.out
            by_cases z : s ≤ t ∧ t < mid
            · rw [if_pos z, show m - s = 0 by omega, Nat.add_zero]
            · rw [if_neg z]
              by_cases z2 : mid ≤ t ∧ t < e
              · rw [if_pos z2, show e - m = 0 by omega, Nat.sub_zero]
              · rw [if_neg z2]))
          have HBY := HB
          have HGY := HG
          have HSZ := Aside0.mk (Stb.Sh.refl a mid xs)
          have HAZ := Aside0.mk (cut_left HKY.out (by have h4 := HE.out; omega))
          have hwe := HWE.out
          go_wp2_with (first | fail)
          all_goals
            have HSV := Stb.Sh.refl mid b xs
            have HAV := cut_right HKY.out (by clear hwe; have h4 := HE.out; omega) HSZ.out
            have HX := HEND.out _ _ _ HSY.out HKY.out HSZ.out HAZ.out HSV HAV
            go_end0
            exact ⟨rfl, _, HX.1, HX.2, HBY.out, HGY.out⟩
theorem sym_calls {cf : Tg → Tg → Int} (C : Stb.Cmp cf) {g cap bw : Nat} : ∀ (D : Nat) {w : World} {xs : List Tg}, Sb w g cap xs → Cmps w g bw xs cf → ∀ a m b : Nat, a < m → m < b → b ≤ xs.length → xs.length ≤ 1000000 → b - a < D → Stb.Asc cf Prod.snd xs a m → Stb.Asc cf Prod.snd xs m b → Stb.Tags Prod.snd xs a m b →
    Calls Tryd.prog 57 #[.slice (some ⟨g, 0, none⟩) xs.length cap, .int .i64 a, .int .i64 m, .int .i64 b, .func (.func 52) #[] #[.pointer (some ⟨bw, 0, none⟩)]] w fun e w' => e = .returned (.tuple #[]) ∧ ∃ ys, Stb.Sh a b xs ys ∧ Stb.Asc cf Prod.snd ys a b ∧ Sb w' g cap ys ∧ w.grownBy w' (some g)
  | 0, w, xs, h, hc, a, m, b, ham, hmb, hb, hs, hD, hA, hB, ht => absurd hD (Nat.not_lt_zero _)
  | D + 1, w, xs, h, hc, a, m, b, ham, hmb, hb, hs, hD, hA, hB, ht => by
    by_cases c1 : a + 1 = m
    · subst c1
      exact sym_one C h hc a b hmb hb hs hB ht
    · by_cases c2 : m + 1 = b
      · subst c2
        exact sym_two C h hc a m (by omega) (by omega) hs hA ht
      · exact sym_gen C h hc a m b (by omega) (by omega) hb hs hA hB ht (fun {W ys} h2 hc2 u v t huv hvt ht2 hs2 hlt hA2 hB2 hT2 => sym_calls C D h2 hc2 u v t huv hvt ht2 hs2 (by omega) hA2 hB2 hT2)

end Go.Proofs.YtpgeimihmkampaaDoor.C
