-- WRITTEN BY mkprint.py, a program of this session, over the kit's print of the given program. Not trusted: Lean checks it.
import Derived.Test.YtpfmcifiocpfbaaCx0
import Derived.Test.YtpfmcifiocpfbaaCx1
namespace Go.Proofs.Ytpfmcifiocpfbaa.C
open Go.RowKit Go.Proofs.YtpfmcifiocpfbaaW.PrintWords Go.Proofs.YtpfmcifiocpfbaaW.PrintLast Go.Proofs.YtpfmcifiocpfbaaW.PrintMore
attribute [local go_sem] max2_int min2_int max_two min_two max_three min_three max_four min_four   -- for this text's walks alone
set_option linter.unusedVariables false
set_option linter.unusedSimpArgs false

/-! ### measure_system_split: function 29 -/
set_option maxHeartbeats 8000000 in
set_option maxRecDepth 100000 in
theorem measure_split1.calls (i n size : Int) (ps : List Int) (gn gs g base B cap : Nat) (w : World) (hn : w.heap[gn]? = some (.cells #[.int .i64 n] 3 (0, 0))) (hs : w.heap[gs]? = some (.cells #[.slice (some ⟨g, 0, none⟩) ps.length cap] 25 (0, 0)))
    (hR : (Kd.int .i64).R 3 w base (fun k => k = g) (.slice (some ⟨g, 0, none⟩) ps.length cap) ps) (d1 : g ≠ gn) (d2 : g ≠ gs) (d3 : gn ≠ gs) (b1 : B ≤ g) (b2 : B ≤ gn) (b3 : B ≤ w.heap.size) (h0 : 0 ≤ i) (h1 : i < (ps.length : Int)) (hz : size ≠ 0) :
    Calls Try.prog 38 #[.int .i64 i, .int .i64 size, .pointer (some ⟨gn, 0, none⟩), .pointer (some ⟨gs, 0, none⟩)] w fun e w' => e = .returned (.tuple #[]) ∧ w'.heap[gn]? = some (.cells #[.int .i64 (Int.tmod n size)] 3 (0, 0)) ∧ w'.heap[gs]? = some (.cells #[.slice (some ⟨g, 0, none⟩) ps.length cap] 25 (0, 0)) ∧
      (Kd.int .i64).R 3 w' base (fun k => k = g) (.slice (some ⟨g, 0, none⟩) ps.length cap) (ps.set i.toNat (wrap64 (Int.tdiv n size))) ∧ Below B w w' := by
  have e1 := (blk_cell hn 0).trans rfl
  have z1 := blk_frozen hn
  have e2 := (blk_cell hs 0).trans rfl
  obtain ⟨e3, z3⟩ := Kd.R_cell 0 hR i h0 h1
  have p1 : (0 ≤ i) = True := eq_true h0
  have p2 : (i < (ps.length : Int)) = True := eq_true h1
  have c1 : (size = 0) = False := eq_false hz
  have c2 : IntKind.i64.wrap (Int.tdiv n size) = wrap64 (Int.tdiv n size) := i64_w _
  have HN := Aside0.mk hn
  have HS := Aside0.mk hs
  have HR := Aside0.mk hR
  have D1 := Aside0.mk d1
  have D2 := Aside0.mk d2
  have D3 := Aside0.mk d3
  have B1 := Aside0.mk b1
  have B2 := Aside0.mk b2
  have B3 := Aside0.mk b3
  have n1 : ¬ gn = g := fun e => d1 e.symm
  clear hn hs hR h0 h1 hz d1 d2 d3 b1 b2 b3
  go_enter Try.func38, Try.ntmps38
  go_wp2
  go_region
  all_goals go_wp2
  refine bodyPost_end (results_none rfl _ _ _) rfl ?_
  exact ⟨rfl, blk_drew (blk_put (cs := #[.int .i64 n]) (blk_far HN.out (p := ⟨g, i.toNat, none⟩) (Ne.symm D1.out) _) 0 _ rfl), blk_drew (blk_far (blk_far HS.out (p := ⟨g, i.toNat, none⟩) (Ne.symm D2.out) _) (p := ⟨gn, 0, none⟩) (Ne.symm D3.out) _), Kd.R_drew (Kd.R_far (Kd.R_put HR.out i _).1 (p := ⟨gn, 0, none⟩) (fun k hk => by rw [hk]; exact D1.out) _), ((Below.refl _ _).setCell B1.out _).setCell B2.out _ |>.drew⟩
set_option maxHeartbeats 8000000 in
set_option maxRecDepth 100000 in
theorem measure_each_split.calls (k : Nat) (A0 : Option Addr) (c0 : Nat) (l : List S41) (n : Int) (ps r : List Int) (gn gs g base cap : Nat) (u w : World) (hr0 : Kd.C k41 u A0 l.length l) (hc0 : l.length ≤ c0) (hB : Below u.heap.size u w) (hl : (l.length : Int) ≤ 1000) (hn : w.heap[gn]? = some (.cells #[.int .i64 n] 3 (0, 0))) (hs : w.heap[gs]? = some (.cells #[.slice (some ⟨g, 0, none⟩) ps.length cap] 25 (0, 0)))
    (hR : (Kd.int .i64).R 3 w base (fun k => k = g) (.slice (some ⟨g, 0, none⟩) ps.length cap) ps) (d1 : g ≠ gn) (d2 : g ≠ gs) (d3 : gn ≠ gs) (b1 : u.heap.size ≤ g) (b2 : u.heap.size ≤ gn) (h : measure_system_split.l0 k l ((l.length : Int) - 1) n ps = some r) :
    Calls Try.prog 37 #[.slice A0 l.length c0, .func (.func 38) #[] #[.pointer (some ⟨gn, 0, none⟩), .pointer (some ⟨gs, 0, none⟩)]] w fun e w' => e = .returned (.tuple #[]) ∧ w'.heap[gs]? = some (.cells #[.slice (some ⟨g, 0, none⟩) ps.length cap] 25 (0, 0)) ∧
      (Kd.int .i64).R 3 w' base (fun k => k = g) (.slice (some ⟨g, 0, none⟩) r.length cap) r ∧ r.length = ps.length ∧ Below u.heap.size u w' := by
  have HR := Aside0.mk hr0
  have HL := Aside0.mk hl
  have H0 := Aside0.mk h
  have HBd := Aside0.mk hB
  have HN := Aside0.mk hn
  have HS := Aside0.mk hs
  have HRp := Aside0.mk hR
  have D1 := Aside0.mk d1
  have D2 := Aside0.mk d2
  have D3 := Aside0.mk d3
  have B1 := Aside0.mk b1
  have B2 := Aside0.mk b2
  have hw : IntKind.i64.wrap ((l.length : Int) - 1) = (l.length : Int) - 1 := (i64_w _).trans (by unfold wrap64; omega)
  have hw2 : wrap64 ((l.length : Int) - 1) = (l.length : Int) - 1 := (by unfold wrap64; omega)
  clear hr0 hl h hB hn hs hR d1 d2 d3 b1 b2
  go_enter Try.func37, Try.ntmps37
  go_wp2
  go_loopg [4] k (fun kq v4 w' => ∃ (i n : Int) (qs : List Int), v4 = .int .i64 i ∧ Aside0 (-1 ≤ i ∧ i < l.length) ∧ Aside0 (measure_system_split.l0 kq l i n qs = some r) ∧ Aside0 (kq ≤ k) ∧ Aside0 (qs.length = ps.length) ∧ Aside0 (w'.heap[gn]? = some (.cells #[.int .i64 n] 3 (0, 0))) ∧ Aside0 (w'.heap[gs]? = some (.cells #[.slice (some ⟨g, 0, none⟩) ps.length cap] 25 (0, 0))) ∧ Aside0 ((Kd.int .i64).R 3 w' base (fun k => k = g) (.slice (some ⟨g, 0, none⟩) qs.length cap) qs) ∧ Aside0 (Below u.heap.size u w'))
  case atStart => exact ⟨_, _, _, by first | rfl | rw [hw] | rw [hw2], ⟨by omega, by omega⟩, H0, ⟨Nat.le_refl _⟩, ⟨rfl⟩, HN, HS, HRp, HBd⟩
  case round =>
    clear H0 HN HS HRp
    obtain ⟨i, n, qs, rfl, HI, HA, HK, HQ, HN, HS, HRp, HB⟩ := hrel
    cases gk with
    | zero => exact absurd HA.out (by simp [measure_system_split.l0])
    | succ k1 =>
      have H := HA.out
      clear HA
      simp only [measure_system_split.l0] at H
      by_cases c1 : i ≥ 0
      · rw [if_pos c1] at H
        by_cases c2 : (rd_T41 l i).f1 = 0
        · rw [if_pos c2] at H
          exact absurd H (by simp)
        · rw [if_neg c2] at H
          by_cases c3 : i < (qs.length : Int)
          · rw [if_pos c3] at H
            by_cases c4 : i < (l.length : Int)
            · rw [if_pos c4] at H
              have H' := Aside0.mk H
              clear H
              have hCw : Kd.C k41 wr A0 l.length l := Kd.C_below HR.out HB.out
              obtain ⟨ad, ead, hx0, hx1⟩ := at_T41 hCw i c1 c4
              subst ead
              have p0 : (0 ≤ i) = True := eq_true c1
              have p0b : decide (0 ≤ i) = true := decide_eq_true c1
              have p1 : (i < (l.length : Int)) = True := eq_true c4
              have C1 := Aside0.mk c1
              have C2 := Aside0.mk c2
              have C3 := Aside0.mk c3
              have hwi : IntKind.i64.wrap (i - 1) = i - 1 := (i64_w _).trans (by have := HL.out; unfold wrap64; omega)
              have hwi2 : wrap64 (i - 1) = i - 1 := (by have := HL.out; unfold wrap64; omega)
              clear c1 c2 c3 c4 hCw
              go_wp2_with (first | (go_at_call 38; refine (measure_split1.calls i n (rd_T41 l i).f1 qs gn gs g base u.heap.size cap _ HN.out (HQ.out ▸ HS.out) HRp.out D1.out D2.out D3.out B1.out B2.out HB.out.size C1.out C3.out C2.out).mono ?_; rintro e w1 ⟨rfl, q1, q2, q3, q4⟩; have HN' := Aside0.mk q1; have HS' := Aside0.mk q2; have HR' := Aside0.mk q3; have HB' := Aside0.mk q4; clear q1 q2 q3 q4))
              go_roundg k1
              case measure => have := HK.out; omega
              case rel => exact ⟨i - 1, _, _, by first | rfl | rw [hwi] | rw [hwi2], ⟨by have := C1.out; omega, by have := HI.out.2; omega⟩, H', ⟨by have := HK.out; omega⟩, ⟨by rw [List.length_set]; exact HQ.out⟩, HN', ⟨HQ.out ▸ HS'.out⟩, ⟨by rw [List.length_set]; exact HR'.out⟩, ⟨HB.out.trans HB'.out⟩⟩
            · rw [if_neg c4] at H
              exact absurd H (by simp)
          · rw [if_neg c3] at H
            exact absurd H (by simp)
      · rw [if_neg c1] at H
        obtain rfl := Option.some.inj H
        have p0b : decide (0 ≤ i) = false := decide_eq_false c1
        clear H c1
        go_wp2
        refine bodyPost_end (results_none rfl _ _ _) rfl ?_
        exact ⟨rfl, HS.out, HRp.out, HQ.out, HB.out⟩
set_option maxHeartbeats 8000000 in
set_option maxRecDepth 100000 in
theorem measure_system_split.calls (k : Nat) (A0 : Option Addr) (c0 : Nat) (l : List S41) (n : Int) (r : List Int) (w : World) (hr0 : Kd.C k41 w A0 l.length l) (hc0 : l.length ≤ c0) (h : measure_system_split.f k l n = some r) :
    Calls Try.prog 29 #[.slice A0 l.length c0, .int .i64 n] w fun e w' => ∃ v0_ : Value, e = .returned (v0_) ∧ Kd.R (Kd.int .i64) 3 w' w.heap.size (fun _ => True) v0_ r ∧ Below w.heap.size w w' := by
  unfold measure_system_split.f at h
  by_cases h1 : 1 ≤ (l.length : Int) ∧ (l.length : Int) ≤ 1000
  · rw [if_pos h1] at h
    have HR := Aside0.mk hr0
    have HL := Aside0.mk h1
    have H := Aside0.mk h
    clear hr0 h1 h
    go_enter Try.func29, Try.ntmps29
    go_wp2_with (first | (refine Kd.R_make (Kd.int .i64) (w0 := w) w.heap.size 3 rfl (N := 8) rfl 25 _ _ rfl (l.length : Int) rfl rfl Try.underlying25 (.int .i64 0) 8 info3 rfl (by decide) (by omega) 0 (ok := fun _ => True) (okp := fun _ => True) rfl (fun _ hk => hk) trivial (by omega) (by have := HL.out.2; omega) (below_alloc (Below.refl _ _) _) (below_alloc (Below.refl _ _) _).size ?_; intro v1 w1 ho hb hg hnew; have hgn : ∀ g, v1.ownBlock = some g → g ≠ w.heap.size := (fun g hg => by obtain ⟨b, e, hle⟩ := hnew; rw [e] at hg; injection hg with hg; have := blk_lt (blk_new w (.cells #[.int .i64 n] 3 (0, 0))); omega); obtain ⟨g, cap, rfl, hgb, hgl, -⟩ := Kd.R_form ho (by have := HL.out.1; simp; omega); have HM := Aside0.mk ho; have HB := Aside0.mk hb; have BN := Aside0.mk (blk_grown (blk_new w _) hg (by simp)); have GB := Aside0.mk hgb; have GL := Aside0.mk hgl; have GN : Aside0 (g ≠ w.heap.size) := ⟨hgn g (by simp [Value.ownBlock])⟩; clear ho hb hgb hgl hnew hg hgn))
    have e1 := Aside0.mk (Kd.R_alloc (Kd.R_mono (ok' := fun k => k = g) (Kd.R_tight (by rfl) HM.out) (fun k hk => by simpa [Value.ownBlock] using hk)) (.cells #[Value.slice (some ⟨g, 0, none⟩) l.length cap] 25 (0, 0)))
    have hlen : (List.replicate (l.length : Int).toNat (0 : Int)).length = l.length := by simp
    have hB2 := below_alloc HB.out (.cells #[Value.slice (some ⟨g, 0, none⟩) l.length cap] 25 (0, 0))
    have gsz : w.heap.size < w1.heap.size := blk_lt BN.out
    rw [show List.replicate (l.length : Int).toNat (0 : Int) = List.replicate l.length 0 by simp] at e1 hlen
    go_at_call 37
    refine (measure_each_split.calls k A0 c0 l n (List.replicate l.length 0) r w.heap.size w1.heap.size g w.heap.size cap w _ HR.out hc0 hB2 HL.out.2 (blk_alloc BN.out _) (by rw [hlen]; exact blk_new w1 _) e1.out (by have := GN.out; omega) (by have := GL.out; omega) (by omega) GB.out (Nat.le_refl _) H.out).mono ?_
    rintro e w2 ⟨rfl, q1, q2, q3, q4⟩
    rw [hlen] at q1
    have e2 := (blk_cell q1 0).trans rfl
    have Q2 := Aside0.mk q2
    have Q3 := Aside0.mk q3
    have Q4 := Aside0.mk q4
    clear q1 q2 q3 q4 e1 hlen hB2 gsz
    go_wp2
    go_ret
    refine ⟨_, rfl, ?_, Q4.out⟩
    have h3 := Q3.out
    rw [List.length_replicate] at h3
    have h2 := Kd.R_mono (ok' := fun _ => True) Q2.out (fun _ _ => trivial)
    rw [h3] at h2
    exact h2
  · rw [if_neg h1] at h
    exact absurd h (by simp)

end Go.Proofs.Ytpfmcifiocpfbaa.C
