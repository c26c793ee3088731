-- WRITTEN BY mkprint.py, a program of this session, over the kit's print of the given program. Not trusted: Lean checks it.
import Derived.Test.YtpgeimihmkampaaDoorCx0
import Derived.Test.YtpgeimihmkampaaDoorCx1
namespace Go.Proofs.YtpgeimihmkampaaDoor.C
open Go.RowKit Go.Proofs.YtpgeimihmkampaaDoorW.PrintWords Go.Proofs.YtpgeimihmkampaaDoorW.PrintLast Go.Proofs.YtpgeimihmkampaaDoorW.PrintMore
attribute [local go_sem] max2_int min2_int max_two min_two max_three min_three max_four min_four   -- for this text's walks alone
set_option linter.unusedVariables false
set_option linter.unusedSimpArgs false

-- NOT PRINTED: function 47 (slices_Clone_string_string)

/-! ### slices_swapRangeCmpFunc_string: function 60 -/
set_option maxHeartbeats 8000000 in
set_option maxRecDepth 100000 in
theorem swr_calls {w : World} {g cap : Nat} {xs : List Tg} (h : Sb w g cap xs) (a b n : Nat) (hab : a + n ≤ b) (hb : b + n ≤ xs.length) (hs : xs.length ≤ 1000000) (c : Value) :
    Calls Tryd.prog 60 #[.slice (some ⟨g, 0, none⟩) xs.length cap, .int .i64 a, .int .i64 b, .int .i64 n, c] w fun e w' => e = .returned (.tuple #[]) ∧ Sb w' g cap (Stb.swr xs a b n) ∧ w.grownBy w' (some g) := by
  obtain ⟨N, hN⟩ : ∃ N, xs.length = N := ⟨_, rfl⟩
  rw [hN] at hb hs ⊢
  have HN := Aside0.mk hN
  have HB0 := Aside0.mk (show Sb w g cap (Stb.swr xs a b 0) from h)
  have HAB := Aside0.mk (And.intro hab (And.intro hb hs))
  clear h hab hb hs hN
  go_enter Tryd.func60, Tryd.ntmps60
  go_wp2
  go_loopg [10] (n + 1) (fun kq v5 w' => ∃ (i : Nat), v5 = .int .i64 (i : Int) ∧ Aside0 (i ≤ n ∧ n < i + kq) ∧ Aside0 (Sb w' g cap (Stb.swr xs a b i)) ∧ Aside0 (w.grownBy w' (some g)))
  case atStart => exact ⟨0, (by first | rfl | (simp; done)), ⟨by omega⟩, HB0, ⟨sg_refl _ _⟩⟩
  case round =>
    clear HB0
    obtain ⟨i, rfl, HI, HB, HG⟩ := hrel
    by_cases c1 : i < n
    · obtain ⟨k1, rfl⟩ : ∃ m, gk = m + 1 := ⟨gk - 1, by have := HI.out; omega⟩
      obtain ⟨p, hp⟩ : ∃ p, a + i = p := ⟨_, rfl⟩
      obtain ⟨q, hq⟩ : ∃ q, b + i = q := ⟨_, rfl⟩
      have hwp : wrap64 ((a : Int) + (i : Int)) = (p : Int) := by have := HAB.out; unfold wrap64; omega
      have hwq : wrap64 ((b : Int) + (i : Int)) = (q : Int) := by have := HAB.out; unfold wrap64; omega
      have hwi : wrap64 ((i : Int) + 1) = ((i + 1 : Nat) : Int) := by have := HAB.out; unfold wrap64; omega
      have HL := Aside0.mk (show p < (Stb.swr xs a b i).length ∧ q < (Stb.swr xs a b i).length by rw [Stb.swr_len, HN.out]; have := HAB.out; omega)
      have cp := HB.out.cell HL.out.1
      have cq := HB.out.cell HL.out.2
      have fp := HB.out.free p
      have fq := HB.out.free q
      have HB1 := Aside0.mk (HB.out.set HL.out.1 (Stb.el (Stb.swr xs a b i) q))
      have cq1 := HB1.out.cell (i := q) (by simpa using HL.out.2)
      have fq1 := HB1.out.free q
      have HS := Aside0.mk (HB.out.swp HL.out.1 HL.out.2)
      have HE := Aside0.mk (show Stb.swr xs a b (i + 1) = Stb.swp (Stb.swr xs a b i) p q by rw [Stb.swr, hp, hq])
      have pp : (0 ≤ (p : Int)) = True := eq_true (by omega)
      have qp : ((p : Int) < (N : Int)) = True := eq_true (by have := HAB.out; omega)
      have pq : (0 ≤ (q : Int)) = True := eq_true (by omega)
      have qq : ((q : Int) < (N : Int)) = True := eq_true (by have := HAB.out; omega)
      have c1b : decide ((i : Int) < (n : Int)) = true := decide_eq_true (by omega)
      have c1n : decide (i < n) = true := decide_eq_true c1
      have HK := Aside0.mk (show i + 1 ≤ n ∧ n < i + 1 + k1 by have := HI.out; omega)
      generalize (Stb.el (Stb.swr xs a b i) p).1 = xp at *
      generalize (Stb.el (Stb.swr xs a b i) q).1 = xq at *
      clear hp hq c1 HB1
      go_wp2
      go_region
      go_wp2
      go_roundg k1
      case measure => omega
      case rel => exact ⟨i + 1, by rw [hwi], HK, ⟨HE.out ▸ HS.out.drew⟩, ⟨sg_drew (sg_set (sg_set HG.out _ _) _ _)⟩⟩
    · have c1b : decide ((i : Int) < (n : Int)) = false := decide_eq_false (by omega)
      have c1n : decide (i < n) = false := decide_eq_false c1
      obtain rfl : i = n := by have := HI.out; omega
      clear c1
      go_wp2
      go_end0
      exact ⟨rfl, HB.out, HG.out⟩

end Go.Proofs.YtpgeimihmkampaaDoor.C
