-- WRITTEN BY mkprint.py, a program of this session, over the kit's print of the given program. Not trusted: Lean checks it.
import Derived.Test.YtpfmcifiocpfbaaCx0
import Derived.Test.YtpfmcifiocpfbaaCx1
namespace Go.Proofs.Ytpfmcifiocpfbaa.C
open Go.RowKit Go.Proofs.YtpfmcifiocpfbaaW.PrintWords Go.Proofs.YtpfmcifiocpfbaaW.PrintLast Go.Proofs.YtpfmcifiocpfbaaW.PrintMore
attribute [local go_sem] max2_int min2_int max_two min_two max_three min_three max_four min_four   -- for this text's walks alone
set_option linter.unusedVariables false
set_option linter.unusedSimpArgs false

/-! ### measure_system_amount: function 35 -/
set_option maxHeartbeats 8000000 in
set_option maxRecDepth 100000 in
theorem measure_amount1.calls (i size sum : Int) (ok : Bool) (ps : List Int) (A1 : Option Addr) (c1 : Nat) (gp go gs B : Nat) (w : World) (hps : Kd.C (Kd.int .i64) w A1 ps.length ps) (hp : w.heap[gp]? = some (.cells #[.slice A1 ps.length c1] 25 (0, 0))) (ho : w.heap[go]? = some (.cells #[.bool ok] 4 (0, 0))) (hs : w.heap[gs]? = some (.cells #[.int .i64 sum] 3 (0, 0)))
    (b1 : B ≤ go) (b2 : B ≤ gs) (h0 : 0 ≤ i) (h1 : i < (ps.length : Int)) :
    Calls Try.prog 40 #[.int .i64 i, .int .i64 size, .pointer (some ⟨gp, 0, none⟩), .pointer (some ⟨go, 0, none⟩), .pointer (some ⟨gs, 0, none⟩)] w fun e w' => e = .returned (.tuple #[]) ∧ w'.heap[gp]? = some (.cells #[.slice A1 ps.length c1] 25 (0, 0)) ∧
      w'.heap[go]? = some (.cells #[.bool (amt (rd ps i) size sum ok).2] 4 (0, 0)) ∧ w'.heap[gs]? = some (.cells #[.int .i64 (amt (rd ps i) size sum ok).1] 3 (0, 0)) ∧ Below B w w' := by
  have d1 : gp ≠ go := blk_ne hp ho (by decide)
  have d2 : gp ≠ gs := blk_ne hp hs (by decide)
  have d3 : go ≠ gs := blk_ne ho hs (by decide)
  have e1 := (blk_cell hp 0).trans rfl
  have e2 := (blk_cell ho 0).trans rfl
  have e3 := (blk_cell hs 0).trans rfl
  have z2 := blk_frozen ho
  have z3 := blk_frozen hs
  obtain ⟨ad, rfl, e4⟩ := Kd.at_int hps i h0 h1
  have p1 : (0 ≤ i) = True := eq_true h0
  have p2 : (i < (ps.length : Int)) = True := eq_true h1
  have HP := Aside0.mk hp
  have HO := Aside0.mk ho
  have HS := Aside0.mk hs
  have D1 := Aside0.mk d1
  have D2 := Aside0.mk d2
  have D3 := Aside0.mk d3
  have B1 := Aside0.mk b1
  have B2 := Aside0.mk b2
  have n1 : ¬ gp = go := d1
  have n2 : ¬ gp = gs := d2
  have n3 : ¬ go = gs := d3
  have n4 : ¬ gs = go := fun e => d3 e.symm
  clear hps hp ho hs h0 h1 d1 d2 d3 b1 b2
  by_cases c1 : rd ps i > 1099511627776
  · have c1b : decide (1099511627776 < rd ps i) = true := decide_eq_true c1
    have A := Aside0.mk (show amt (rd ps i) size sum ok = (sum, false) by unfold amt; rw [if_pos c1])
    clear c1
    go_enter Try.func40, Try.ntmps40
    go_wp2
    refine bodyPost_ret (results_none rfl _ _ _) rfl ?_
    rw [A.out]
    exact ⟨rfl, blk_far HP.out (p := ⟨go, 0, none⟩) D1.out _, blk_put (cs := #[.bool ok]) HO.out 0 _ rfl, blk_far HS.out (p := ⟨go, 0, none⟩) (Ne.symm D3.out) _, (Below.refl _ _).setCell B1.out _⟩
  · have c1b : decide (1099511627776 < rd ps i) = false := decide_eq_false c1
    cases ok with
    | false =>
      have A := Aside0.mk (show amt (rd ps i) size sum false = (sum, false) by unfold amt; rw [if_neg c1, if_pos rfl])
      clear c1
      go_enter Try.func40, Try.ntmps40
      go_wp2
      refine bodyPost_ret (results_none rfl _ _ _) rfl ?_
      rw [A.out]
      exact ⟨rfl, blk_far HP.out (p := ⟨go, 0, none⟩) D1.out _, blk_put (cs := #[.bool false]) HO.out 0 _ rfl, blk_far HS.out (p := ⟨go, 0, none⟩) (Ne.symm D3.out) _, (Below.refl _ _).setCell B1.out _⟩
    | true =>
      have A := Aside0.mk (show amt (rd ps i) size sum true = (wrap64 (sum + wrap64 (rd ps i * size)), decide (wrap64 (sum + wrap64 (rd ps i * size)) ≤ 1099511627776)) by unfold amt; rw [if_neg c1, if_neg (by simp)])
      have cw : ∀ x, IntKind.i64.wrap x = wrap64 x := i64_w
      clear c1
      go_enter Try.func40, Try.ntmps40
      go_wp2
      go_region
      all_goals go_wp2
      all_goals refine bodyPost_end (results_none rfl _ _ _) rfl ?_
      all_goals rw [A.out]
      all_goals exact ⟨rfl, blk_drew (blk_far (blk_far HP.out (p := ⟨gs, 0, none⟩) D2.out _) (p := ⟨go, 0, none⟩) D1.out _), blk_drew (blk_put (cs := #[.bool true]) (blk_far HO.out (p := ⟨gs, 0, none⟩) D3.out _) 0 _ rfl), blk_drew (blk_far (blk_put (cs := #[.int .i64 sum]) HS.out 0 _ rfl) (p := ⟨go, 0, none⟩) (Ne.symm D3.out) _), ((Below.refl _ _).setCell B2.out _).setCell B1.out _ |>.drew⟩
set_option maxHeartbeats 8000000 in
set_option maxRecDepth 100000 in
theorem measure_each_amount.calls (k : Nat) (A0 : Option Addr) (c0 : Nat) (l : List S41) (ps : List Int) (A1 : Option Addr) (c1 : Nat) (sum : Int) (ok : Bool) (r1 : Int) (r2 : Bool) (gp go gs : Nat) (u w : World) (hr0 : Kd.C k41 u A0 l.length l) (hc0 : l.length ≤ c0) (hps : Kd.C (Kd.int .i64) u A1 ps.length ps) (hB : Below u.heap.size u w) (hl : (l.length : Int) ≤ 1000)
    (hp : w.heap[gp]? = some (.cells #[.slice A1 ps.length c1] 25 (0, 0))) (ho : w.heap[go]? = some (.cells #[.bool ok] 4 (0, 0))) (hs : w.heap[gs]? = some (.cells #[.int .i64 sum] 3 (0, 0))) (b1 : u.heap.size ≤ go) (b2 : u.heap.size ≤ gs) (h : measure_system_amount.l0 k l ps ((l.length : Int) - 1) sum ok = some (r1, r2)) :
    Calls Try.prog 37 #[.slice A0 l.length c0, .func (.func 40) #[] #[.pointer (some ⟨gp, 0, none⟩), .pointer (some ⟨go, 0, none⟩), .pointer (some ⟨gs, 0, none⟩)]] w fun e w' => e = .returned (.tuple #[]) ∧ w'.heap[go]? = some (.cells #[.bool r2] 4 (0, 0)) ∧ w'.heap[gs]? = some (.cells #[.int .i64 r1] 3 (0, 0)) ∧ Below u.heap.size u w' := by
  have HR := Aside0.mk hr0
  have HPS := Aside0.mk hps
  have HL := Aside0.mk hl
  have H0 := Aside0.mk h
  have HBd := Aside0.mk hB
  have HP := Aside0.mk hp
  have HO := Aside0.mk ho
  have HS := Aside0.mk hs
  have B1 := Aside0.mk b1
  have B2 := Aside0.mk b2
  have hw : IntKind.i64.wrap ((l.length : Int) - 1) = (l.length : Int) - 1 := (i64_w _).trans (by unfold wrap64; omega)
  have hw2 : wrap64 ((l.length : Int) - 1) = (l.length : Int) - 1 := (by unfold wrap64; omega)
  clear hr0 hl h hB hp ho hs hps b1 b2
  go_enter Try.func37, Try.ntmps37
  go_wp2
  go_loopg [4] k (fun kq v4 w' => ∃ (i sum : Int) (ok : Bool), v4 = .int .i64 i ∧ Aside0 (-1 ≤ i ∧ i < l.length) ∧ Aside0 (measure_system_amount.l0 kq l ps i sum ok = some (r1, r2)) ∧ Aside0 (kq ≤ k) ∧ Aside0 (w'.heap[gp]? = some (.cells #[.slice A1 ps.length c1] 25 (0, 0))) ∧ Aside0 (w'.heap[go]? = some (.cells #[.bool ok] 4 (0, 0))) ∧ Aside0 (w'.heap[gs]? = some (.cells #[.int .i64 sum] 3 (0, 0))) ∧ Aside0 (Below u.heap.size u w'))
  case atStart => exact ⟨_, _, _, by first | rfl | rw [hw] | rw [hw2], ⟨by omega, by omega⟩, H0, ⟨Nat.le_refl _⟩, HP, HO, HS, HBd⟩
  case round =>
    clear H0 HP HO HS HBd
    obtain ⟨i, sum, ok, rfl, HI, HA, HK, HP, HO, HS, HB⟩ := hrel
    cases gk with
    | zero => exact absurd HA.out (by simp [measure_system_amount.l0])
    | succ k1 =>
      have H := HA.out
      clear HA
      simp only [measure_system_amount.l0] at H
      by_cases c1 : i ≥ 0
      · rw [if_pos c1] at H
        by_cases c3 : i < (ps.length : Int)
        · rw [if_pos c3] at H
          by_cases c4 : i < (l.length : Int)
          · rw [if_pos c4] at H
            have H' := Aside0.mk H
            clear H
            have hCw : Kd.C k41 wr A0 l.length l := Kd.C_below HR.out HB.out
            obtain ⟨ad, ead, hx0, hx1⟩ := at_T41 hCw i c1 c4
            subst ead
            have p0 : (0 ≤ i) = True := eq_true c1
            have p0b : decide (0 ≤ i) = true := decide_eq_true c1
            have p1 : (i < (l.length : Int)) = True := eq_true c4
            have C1 := Aside0.mk c1
            have C3 := Aside0.mk c3
            have hwi : IntKind.i64.wrap (i - 1) = i - 1 := (i64_w _).trans (by have := HL.out; unfold wrap64; omega)
            have hwi2 : wrap64 (i - 1) = i - 1 := (by have := HL.out; unfold wrap64; omega)
            clear c1 c3 c4 hCw
            go_wp2_with (first | (go_at_call 40; refine (measure_amount1.calls i (rd_T41 l i).f1 sum ok ps A1 _ gp go gs u.heap.size _ (Kd.C_below HPS.out HB.out) HP.out HO.out HS.out B1.out B2.out C1.out C3.out).mono ?_; rintro e w1 ⟨rfl, q1, q2, q3, q4⟩; have HP' := Aside0.mk q1; have HO' := Aside0.mk q2; have HS' := Aside0.mk q3; have HB' := Aside0.mk q4; clear q1 q2 q3 q4))
            go_roundg k1
            case measure => have := HK.out; omega
            case rel => exact ⟨i - 1, _, _, by first | rfl | rw [hwi] | rw [hwi2], ⟨by have := C1.out; omega, by have := HI.out.2; omega⟩, H', ⟨by have := HK.out; omega⟩, HP', HO', HS', ⟨HB.out.trans HB'.out⟩⟩
          · rw [if_neg c4] at H
            exact absurd H (by simp)
        · rw [if_neg c3] at H
          exact absurd H (by simp)
      · rw [if_neg c1] at H
        injection H with H
        injection H with H1 H2
        subst H1 H2
        have p0b : decide (0 ≤ i) = false := decide_eq_false c1
        clear c1
        go_wp2
        refine bodyPost_end (results_none rfl _ _ _) rfl ?_
        exact ⟨rfl, HO.out, HS.out, HB.out⟩
set_option maxHeartbeats 8000000 in
set_option maxRecDepth 100000 in
theorem measure_system_amount.calls (k : Nat) (A0 : Option Addr) (c0 : Nat) (l : List S41) (A1 : Option Addr) (c1 : Nat) (l1 : List Int) (r1 : Int) (r2 : Bool) (w : World) (hr0 : Kd.C k41 w A0 l.length l) (hc0 : l.length ≤ c0) (hr1 : Kd.C (Kd.int .i64) w A1 l1.length l1) (hc1 : l1.length ≤ c1) (h : measure_system_amount.f k l l1 = some (r1, r2)) :
    Calls Try.prog 35 #[.slice A0 l.length c0, .slice A1 l1.length c1] w fun e w' => e = .returned (.tuple #[.int .i64 r1, .bool r2]) ∧ Below w.heap.size w w' := by
  unfold measure_system_amount.f at h
  by_cases h1 : (l.length : Int) ≤ 1000
  · rw [if_pos h1] at h
    have HR := Aside0.mk hr0
    have HPS := Aside0.mk hr1
    have HL := Aside0.mk h1
    have H := Aside0.mk h
    clear hr0 hr1 h1 h
    go_enter Try.func35, Try.ntmps35
    have s1 : ∀ (W : World) o, (W.alloc o).heap.size = W.heap.size + 1 := fun W o => (by first | exact Array.size_push _ | (show (W.heap.push o).size = _; simp) | simp [go_sem])
    have x1 := blk_alloc (blk_alloc (blk_new w (.cells #[Value.slice A1 l1.length c1] 25 (0, 0))) (.cells #[.int .i64 0] 3 (0, 0))) (.cells #[.bool true] 4 (0, 0))
    have x2 := blk_alloc (blk_new (w.alloc (.cells #[Value.slice A1 l1.length c1] 25 (0, 0))) (.cells #[.int .i64 0] 3 (0, 0))) (.cells #[.bool true] 4 (0, 0))
    have x3 := blk_new ((w.alloc (.cells #[Value.slice A1 l1.length c1] 25 (0, 0))).alloc (.cells #[.int .i64 0] 3 (0, 0))) (.cells #[.bool true] 4 (0, 0))
    rw [s1] at x2
    rw [s1, s1] at x3
    have X1 := Aside0.mk x1
    have X2 := Aside0.mk x2
    have X3 := Aside0.mk x3
    have XB := Aside0.mk (below_alloc (below_alloc (below_alloc (Below.refl w.heap.size w) (.cells #[Value.slice A1 l1.length c1] 25 (0, 0))) (.cells #[.int .i64 0] 3 (0, 0))) (.cells #[.bool true] 4 (0, 0)))
    clear x1 x2 x3 s1
    go_wp2_with (first | (go_at_call 37; refine (measure_each_amount.calls k A0 c0 l l1 A1 c1 0 true r1 r2 w.heap.size (w.heap.size + 1 + 1) (w.heap.size + 1) w _ HR.out hc0 HPS.out XB.out HL.out X1.out X3.out X2.out (by omega) (by omega) H.out).mono ?_; rintro e w2 ⟨rfl, q1, q2, q4⟩; have e1 := (blk_cell q1 0).trans rfl; have e2 := (blk_cell q2 0).trans rfl; have Q4 := Aside0.mk q4; clear q1 q2 q4))
    go_region
    all_goals go_wp2
    all_goals refine bodyPost_ret (results_tmp2 rfl _ _ _) rfl ?_
    all_goals exact ⟨rfl, by first | exact Q4.out | exact below_drew Q4.out | exact below_drew1 Q4.out | exact pw_below_drewN Q4.out _⟩
  · rw [if_neg h1] at h
    exact absurd h (by simp)

end Go.Proofs.Ytpfmcifiocpfbaa.C
