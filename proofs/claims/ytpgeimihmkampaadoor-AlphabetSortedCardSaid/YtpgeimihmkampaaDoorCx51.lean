-- WRITTEN BY mkprint.py, a program of this session, over the kit's print of the given program. Not trusted: Lean checks it.
import Derived.Test.YtpgeimihmkampaaDoorCx0
import Derived.Test.YtpgeimihmkampaaDoorCx1
import Derived.Test.YtpgeimihmkampaaDoorCx12
import Derived.Test.YtpgeimihmkampaaDoorCx49
namespace Go.Proofs.YtpgeimihmkampaaDoor.C
open Go.RowKit Go.Proofs.YtpgeimihmkampaaDoorW.PrintWords Go.Proofs.YtpgeimihmkampaaDoorW.PrintLast Go.Proofs.YtpgeimihmkampaaDoorW.PrintMore
attribute [local go_sem] max2_int min2_int max_two min_two max_three min_three max_four min_four   -- for this text's walks alone
set_option linter.unusedVariables false
set_option linter.unusedSimpArgs false

/-! ### alphabet_Sort: function 37 -/
set_option maxHeartbeats 400000 in
theorem okW_at {k : Nat} {l : List S42} {ws : List ByteArray} (h : okW k l ws = true) : okA l = true ∧ (∀ s ∈ ws, okS l s = true ∧ (weights l s).length < k) ∧ ws.length ≤ 40 := by
  unfold okW at h
  simp only [Bool.and_eq_true, List.all_eq_true, decide_eq_true_eq] at h
  exact h
theorem el_tag (ws : List ByteArray) {i : Nat} (hi : i < ws.length) : (Stb.el (Stb.tagL ws 0) i).1 = Stb.el ws i := by
  have := Stb.el_map Prod.fst (Stb.tagL ws 0) (n := i) (by rw [Stb.tagL_len]; exact hi)
  rw [Stb.tagL_fst] at this
  exact this.symm
theorem sb_of_R {w : World} {base : Nat} {ok : Nat → Prop} {v : Value} {ws : List ByteArray} (h : Kd.R Kd.string 9 w base ok v ws) (hn : 0 < ws.length) : ∃ g cap, v = .slice (some ⟨g, 0, none⟩) ws.length cap ∧ base ≤ g ∧ ws.length ≤ cap ∧ Sb w g cap (Stb.tagL ws 0) := by
  have h' := h
  obtain ⟨_, inner, ⟨h1, h2⟩, _⟩ := h
  rcases h2 with ⟨rfl, h0⟩ | ⟨g, cap, cur, rfl, hg, hh, hnc, hcm, hcs, ht⟩
  · omega
  · refine ⟨g, cap, rfl, hg, hnc, cur, hh, by simpa [Kd.string, Kd.scalar] using hcs, by rw [Stb.tagL_len]; exact hnc, fun i hi => ?_⟩
    rw [Stb.tagL_len] at hi
    have hc := (Kd.R_celln ByteArray.empty h' (i : Int) (by omega) (by omega)).1
    rw [blk_cell hh, Int.toNat_natCast] at hc
    rw [hc, el_tag ws hi, Stb.el_get hi]
    simp [rdOf, List.getD, hi]
theorem C_of_sb {w : World} {g cap : Nat} {ys : List Tg} (h : Sb w g cap ys) (hs : ys.length ≤ 1000000) : Kd.C Kd.string w (some ⟨g, 0, none⟩) ys.length (ys.map Prod.fst) :=
  Kd.C_of_reads (d := ByteArray.empty) (h1 := fun _ => rfl) ⟨by simp, by omega, fun _ => ⟨_, rfl, fun j hj => by
    have := h.cell hj
    have e : (Addr.add ⟨g, 0, none⟩ j) = ⟨g, j, none⟩ := by unfold Addr.add; by_cases h0 : j = 0 <;> simp [h0]
    rw [e, this, Stb.el_get hj]
    simp [List.getD, hj]⟩⟩
set_option maxHeartbeats 8000000 in
set_option maxRecDepth 100000 in
theorem ins_none (A : Option Addr) (c : Nat) (fv : Value) (w : World) : Calls Tryd.prog 56 #[.slice A 0 c, .int .i64 0, .int .i64 0, fv] w fun e w' => e = .returned (.tuple #[]) ∧ w' = w := by
  go_enter Tryd.func56, Tryd.ntmps56
  go_wp2
  refine wp_loop_rounds 1 ?_
  rw [rounds_succ]
  go_wp2
  go_end0
  exact ⟨rfl, rfl⟩
set_option maxHeartbeats 8000000 in
set_option maxRecDepth 100000 in
theorem stab_none (A : Option Addr) (c : Nat) (fv : Value) (w : World) : Calls Tryd.prog 54 #[.slice A 0 c, .int .i64 0, fv] w fun e w' => e = .returned (.tuple #[]) ∧ w' = w := by
  go_enter Tryd.func54, Tryd.ntmps54
  go_wp2
  refine wp_loop_rounds 1 ?_
  rw [rounds_succ]
  go_wp2_with (first | (go_at_call 56; refine (ins_none A c fv _).mono ?_; rintro e w1 ⟨rfl, rfl⟩))
  refine wp_loop_rounds 1 ?_
  rw [rounds_succ]
  go_wp2
  go_end0
  exact ⟨rfl, rfl⟩
set_option maxHeartbeats 8000000 in
set_option maxRecDepth 100000 in
theorem clip_calls (A : Option Addr) (n c : Nat) (hnc : n ≤ c) (w : World) (hA : A = none → n = 0) : Calls Tryd.prog 49 #[.slice A n c] w fun e w' => e = .returned (.slice A n n) ∧ w' = w := by
  have p1 : ((n : Int) ≤ (c : Int)) = True := eq_true (by omega)
  have p2 : (0 ≤ (n : Int)) = True := eq_true (by omega)
  have p3 : (n ≤ c) = True := eq_true hnc
  cases A with
  | none =>
    obtain rfl := hA rfl
    clear hA
    go_enter Tryd.func49, Tryd.ntmps49
    go_wp2
    go_ret
    exact ⟨rfl, rfl⟩
  | some a =>
    clear hA
    go_enter Tryd.func49, Tryd.ntmps49
    go_wp2
    go_ret
    exact ⟨rfl, rfl⟩
set_option maxHeartbeats 8000000 in
set_option maxRecDepth 100000 in
theorem sst_calls (A : Option Addr) (n c : Nat) (fv : Value) (w : World) (Q : World → Prop) (h : Calls Tryd.prog 54 #[.slice A n c, .int .i64 n, fv] w fun e w' => e = .returned (.tuple #[]) ∧ Q w') : Calls Tryd.prog 48 #[.slice A n c, fv] w fun e w' => e = .returned (.tuple #[]) ∧ Q w' := by
  have H := Aside0.mk h
  clear h
  go_enter Tryd.func48, Tryd.ntmps48
  go_wp2_with (first | (go_at_call 54; (with_reducible refine H.out.mono ?_); rintro e w1 ⟨rfl, hq⟩))
  go_end0
  exact ⟨rfl, hq⟩
theorem eql33_nil (W : World) (n c : Nat) : (binOp .eql 33 (.slice none n c) (.slice none 0 0)).run Tryd.prog W = .ok (.bool true) W := by
  have h : ∀ d : Nat, (Op.equalIn (d + 1) 33 (.slice none n c) (.slice none 0 0)).run Tryd.prog W = .ok true W := fun d => by simp [Op.equalIn, run_underlying Tryd.underlying33]
  simp only [binOp]
  simp [Op.equal, Op.maxDepth, h 9999]
theorem eql33_some (W : World) (a : Addr) (n c : Nat) : (binOp .eql 33 (.slice (some a) n c) (.slice none 0 0)).run Tryd.prog W = .ok (.bool false) W := by
  have h : ∀ d : Nat, (Op.equalIn (d + 1) 33 (.slice (some a) n c) (.slice none 0 0)).run Tryd.prog W = .ok false W := fun d => by simp [Op.equalIn, run_underlying Tryd.underlying33]
  simp only [binOp]
  simp [Op.equal, Op.maxDepth, h 9999]
theorem sInfo9 : (Tryd.prog.info? 9).map (fun i => (i.zero, i.size, i.bytes)) = some (some (.string ⟨#[]⟩), 1, 16) := by kernel_rfl
theorem C_nil {w : World} {n : Nat} {ws : List ByteArray} (h : Kd.C Kd.string w none n ws) : ws = [] := by
  obtain ⟨h1, _, h3⟩ := h
  by_cases c : 0 < n
  · obtain ⟨a, e, _⟩ := h3 c
    exact absurd e (by simp)
  · exact List.eq_nil_of_length_eq_zero (by omega)
theorem mt_row (w : World) : (Kd.scalar Value.string (fun _ => rfl)).R 9 (w.alloc (.cells #[] 9)) w.heap.size (fun _ => True) (.slice (some ⟨w.heap.size, 0, none⟩) 0 0) ([] : List ByteArray) :=
  ⟨fun _ _ => trivial, [], ⟨rfl, .inr ⟨w.heap.size, 0, #[], rfl, Nat.le_refl _, blk_new w _, Nat.le_refl _, by decide, rfl, rfl⟩⟩, Reps.none _ _⟩
set_option maxHeartbeats 8000000 in
set_option maxRecDepth 100000 in
theorem clone_calls (A : Option Addr) (c : Nat) (ws : List ByteArray) (w : World) (hr : Kd.C Kd.string w A ws.length ws) (hl : ws.length ≤ 1000000) :
    Calls Tryd.prog 47 #[.slice A ws.length c] w fun e w' => ∃ v : Value, e = .returned v ∧ Kd.R Kd.string 9 w' w.heap.size (fun _ => True) v ws ∧ Below w.heap.size w w' := by
  have q1 := eql33_nil
  have q2 := eql33_some
  have HB := Aside0.mk (Below.refl w.heap.size w)
  cases A with
  | none =>
    obtain rfl := C_nil hr
    clear hr hl
    go_enter Tryd.func47, Tryd.ntmps47
    go_wp2
    go_ret
    exact ⟨_, rfl, Kd.R_nil _ _ _ _ _, HB.out⟩
  | some ad =>
    have HR := Aside0.mk hr
    have HL := Aside0.mk hl
    obtain ⟨n, hn⟩ : ∃ n, ws.length = n := ⟨_, rfl⟩
    rw [hn] at HR HL ⊢
    have HN := Aside0.mk hn
    clear hr hl hn
    go_enter Tryd.func47, Tryd.ntmps47
    go_wp2_with (first | (at_builtin; refine Kd.R_append_row (h1 := fun _ => rfl) Value.string ByteArray.empty (w0 := w) w.heap.size rfl (.tmp 5) (.tmp 6) 33 9 (.string ⟨#[]⟩) 16 rfl Tryd.underlying33 sInfo9 rfl (by decide) (.slice (some ⟨w.heap.size, 0, none⟩) 0 0) [] ws (some ad) n c (fun _ => True) rfl rfl (fun _ _ => trivial) (mt_row w) (Kd.C_below HR.out (below_alloc (Below.refl _ _) _)) (below_alloc (Below.refl _ _) _) (by simp) (by have := HL.out; simp; omega) ?_; intro v1 w1 ho hb hg hat; have HO := Aside0.mk ho; have HB1 := Aside0.mk hb; clear ho hb hg hat))
    go_ret
    exact ⟨_, rfl, HO.out, HB1.out⟩
theorem cmps_of {k : Nat} {A0 : Option Addr} {c0 b n bi ba bw g cap : Nat} {l : List S42} {ws : List ByteArray} {w : World} (hw : ∀ s ∈ ws, okS l s = true ∧ (weights l s).length < k) (hg : Sb w g cap (Stb.tagL ws 0)) (hn : 0 < ws.length)
    (hi : w.cell? ⟨bi, 0, none⟩ = some (.map (some b))) (ha : w.cell? ⟨ba, 0, none⟩ = some (.slice A0 l.length c0)) (hv : w.cell? ⟨bw, 0, none⟩ = some (.func (.func 51) #[] #[.pointer (some ⟨bi, 0, none⟩), .pointer (some ⟨ba, 0, none⟩)])) (hT : Tb w b n (distinct l l.length) (firstIn l l.length)) :
    Cmps w g bw (Stb.tagL ws 0) (fun x y => cmpW l x.1 y.1) := by
  have hc := hg.cell (i := 0) (by rw [Stb.tagL_len]; exact hn)
  have hne : ∀ (x : Nat) (v : Value), w.cell? ⟨x, 0, none⟩ = some v → (∀ s, v ≠ .string s) → x ≠ g := fun x v h h2 e => by
    subst e
    rw [hc] at h
    exact h2 _ (Option.some.inj h).symm
  have hbg : b ≠ g := fun e => by
    obtain ⟨D, ⟨es, clock, h1, _⟩, _⟩ := hT
    obtain ⟨cur, h2, _⟩ := hg
    rw [e, h2] at h1
    exact absurd h1 (by simp)
  have lt : ∀ (x : Nat) (v : Value), w.cell? ⟨x, 0, none⟩ = some v → x < w.heap.size := fun x v h => by
    by_cases q : x < w.heap.size
    · exact q
    · have : w.cell? ⟨x, 0, none⟩ = none := by simp only [World.cell?, Array.getElem?_eq_none (Nat.not_lt.1 q)]
      rw [this] at h
      exact absurd h (by simp)
  intro w1 h1 x y hx hy
  have keep : ∀ (x : Nat) (v : Value), w.cell? ⟨x, 0, none⟩ = some v → (∀ s, v ≠ .string s) → w1.cell? ⟨x, 0, none⟩ = some v := fun x v h h2 => by
    have := h1.block x (lt x v h) (by simpa using hne x v h h2)
    rw [World.cell?_of_block (w := w) this]
    exact h
  have mem : ∀ z : Tg, z ∈ Stb.tagL ws 0 → z.1 ∈ ws := fun z hz => by
    have := List.mem_map_of_mem (f := Prod.fst) hz
    rwa [Stb.tagL_fst] at this
  have hxw := hw x.1 (mem x hx)
  have hyw := hw y.1 (mem y hy)
  have hwl := (okS_at hxw.1).2
  exact collate_calls k A0 c0 l x.1 y.1 _ b n bi ba bw w1 hxw.1 hyw.1 (keep bi _ hi (by simp)) (keep ba _ ha (by simp)) (keep bw _ hv (by simp)) (hT.kept h1 (by simpa using hbg)) (slc_at hxw.2 (by have h1 := rns_len x.1; unfold weights; rw [List.length_map]; omega))
theorem tags_up (ws : List ByteArray) : ∀ u v, u < v → v < ws.length → (Stb.el (Stb.tagL ws 0) u).2 < (Stb.el (Stb.tagL ws 0) v).2 := fun u v h1 h2 => by
  rw [Stb.tagL_get ws 0 u (by omega), Stb.tagL_get ws 0 v h2]
  omega
theorem done_sort {l : List S42} {w w' : World} {g cap : Nat} {ws : List ByteArray} (h : Done w w' g cap (Stb.tagL ws 0) (fun x y => cmpW l x.1 y.1)) : ∃ ys : List Tg, ys.map Prod.fst = Stb.isort (cmpW l) ws ∧ ys.length = ws.length ∧ Sb w' g cap ys ∧ w.grownBy w' (some g) := by
  obtain ⟨ys, h1, h2, h3, h4⟩ := h
  have hl : ys.length = ws.length := by rw [h1.length_eq, Stb.tagL_len]
  rw [Stb.tagL_len] at h2
  refine ⟨ys, Stb.stable_one (cmpW_cmp l) ws ys h1 ?_, hl, h3, h4⟩
  rw [List.pairwise_iff_getElem]
  intro i j hi hj hij
  have := h2 i j (Nat.zero_le _) hij (by omega)
  rwa [Stb.el_get hi, Stb.el_get hj] at this
theorem stab_calls {l : List S42} {g cap bw : Nat} {ws : List ByteArray} {w : World} (h : Sb w g cap (Stb.tagL ws 0)) (hc : Cmps w g bw (Stb.tagL ws 0) (fun x y => cmpW l x.1 y.1)) (h40 : ws.length ≤ 40) :
    Calls Tryd.prog 54 #[.slice (some ⟨g, 0, none⟩) ws.length cap, .int .i64 ws.length, .func (.func 52) #[] #[.pointer (some ⟨bw, 0, none⟩)]] w fun e w' => e = .returned (.tuple #[]) ∧ ∃ ys : List Tg, ys.map Prod.fst = Stb.isort (cmpW l) ws ∧ ys.length = ws.length ∧ Sb w' g cap ys ∧ w.grownBy w' (some g) := by
  have C : Stb.Cmp (fun x y : Tg => cmpW l x.1 y.1) := ⟨fun x y => (cmpW_cmp l).anti x.1 y.1, fun x y z => (cmpW_cmp l).trans x.1 y.1 z.1⟩
  have hN : (Stb.tagL ws 0).length = ws.length := Stb.tagL_len ws 0
  have ht := tags_up ws
  generalize ws.length = N at *
  have fin : ∀ {e : Ending} {w' : World}, (e = .returned (.tuple #[]) ∧ Done w w' g cap (Stb.tagL ws 0) (fun x y => cmpW l x.1 y.1)) → e = .returned (.tuple #[]) ∧ ∃ ys : List Tg, ys.map Prod.fst = Stb.isort (cmpW l) ws ∧ ys.length = N ∧ Sb w' g cap ys ∧ w.grownBy w' (some g) := fun {e w'} q => by
    obtain ⟨ys, h1, h2, h3, h4⟩ := done_sort q.2
    exact ⟨q.1, ys, h1, by rw [h2]; rw [Stb.tagL_len] at hN; exact hN, h3, h4⟩
  by_cases c1 : N < 20
  · exact (stab_a C h hc hN c1 ht).mono (fun _ _ q => fin q)
  · by_cases c2 : N = 20
    · subst c2
      exact (stab_b C h hc hN ht).mono (fun _ _ q => fin q)
    · by_cases c3 : N < 40
      · exact (stab_c C h hc hN (by omega) c3 ht).mono (fun _ _ q => fin q)
      · obtain rfl : N = 40 := by omega
        exact (stab_d C h hc hN ht).mono (fun _ _ q => fin q)
set_option maxHeartbeats 8000000 in
set_option maxRecDepth 100000 in
theorem alphabet_Sort.calls (k : Nat) (A0 : Option Addr) (c0 : Nat) (l : List S42) (A1 : Option Addr) (c1 : Nat) (ws : List ByteArray) (r : List ByteArray) (w : World) (hr0 : Kd.C k42 w A0 l.length l) (hc0 : l.length ≤ c0) (hr1 : Kd.C Kd.string w A1 ws.length ws) (hc1 : ws.length ≤ c1) (h : alphabet_Sort.f k l ws = some r) :
    Calls Tryd.prog 37 #[.slice A0 l.length c0, .slice A1 ws.length c1] w fun e w' => ∃ A c, e = .returned (.slice A r.length c) ∧ Kd.C Kd.string w' A r.length r ∧ r.length ≤ c ∧ Below w.heap.size w w' := by
  unfold alphabet_Sort.f at h
  by_cases hk : okW k l ws = true
  · rw [if_pos hk] at h
    obtain rfl := Option.some.inj h
    obtain ⟨ho, hw, h40⟩ := okW_at hk
    have hsl := Stb.isort_len (cmpW l) ws
    have HR := Aside0.mk hr0
    have HO := Aside0.mk ho
    have HW := Aside0.mk hw
    have H40 := Aside0.mk h40
    have HCL := Aside0.mk (clone_calls A1 c1 ws w hr1 (by omega))
    by_cases hn : ws.length = 0
    · obtain rfl := List.eq_nil_of_length_eq_zero hn
      have hin : Stb.isort (cmpW l) ([] : List ByteArray) = [] := rfl
      rw [hin]
      rw [List.length_nil] at HCL
      clear h hk hr0 hr1 ho hw h40 hsl hn hin HW H40
      go_enter Tryd.func37, Tryd.ntmps37
      go_wp2_with (first | (go_at_call 47; (with_reducible refine HCL.out.mono ?_); rintro e w1 ⟨v, rfl, hR, hb⟩; obtain ⟨A, c, rfl⟩ := Kd.R_slice hR; rw [List.length_nil] at hR ⊢; have HB1 := Aside0.mk hb; have HX := Aside0.mk (Kd.R_reads' hR).2; clear hR hb) | (go_at_call 44; refine (collation_calls A0 c0 l _ (Kd.C_below HR.out HB1.out) hc0 HO.out).mono ?_; rintro e w2 ⟨b, n, bi, ba, bw, rfl, hi, ha, hv, hT, hbel⟩; have HB2 := Aside0.mk (below_step HB1.out hbel); clear hi ha hv hT hbel) | (go_at_call 48; refine (sst_calls _ 0 _ _ _ _ (stab_none _ _ _ _)).mono ?_; rintro e w3 ⟨rfl, rfl⟩) | (go_at_call 49; refine (clip_calls _ _ _ HX.out.1 _ (fun _ => rfl)).mono ?_; rintro e w4 ⟨rfl, rfl⟩))
      go_ret
      exact ⟨_, _, rfl, ⟨rfl, Nat.zero_le _, fun q => absurd q (Nat.lt_irrefl 0)⟩, Nat.le_refl _, HB2.out⟩
    · have HN := Aside0.mk (Nat.pos_of_ne_zero hn)
      have HSL := Aside0.mk hsl
      clear h hk hr0 hr1 ho hw h40 hsl hn
      go_enter Tryd.func37, Tryd.ntmps37
      go_wp2_with (first | (go_at_call 47; (with_reducible refine HCL.out.mono ?_); rintro e w1 ⟨v, rfl, hR, hb⟩; obtain ⟨g, cap, rfl, hge, hcap, hS⟩ := sb_of_R hR HN.out; have HB1 := Aside0.mk hb; have HS1 := Aside0.mk hS; have HGE := Aside0.mk hge; have HCAP := Aside0.mk hcap; clear hR hb hge hcap hS) | (go_at_call 44; refine (collation_calls A0 c0 l _ (Kd.C_below HR.out HB1.out) hc0 HO.out).mono ?_; rintro e w2 ⟨b, n, bi, ba, bw, rfl, hi, ha, hv, hT, hbel⟩; have HS2 := Aside0.mk (HS1.out.below hbel); have HST := Aside0.mk (stab_calls HS2.out (cmps_of HW.out HS2.out HN.out hi ha hv hT) H40.out); have HB2 := Aside0.mk (below_step HB1.out hbel); clear hi ha hv hT hbel) | (go_at_call 48; refine (sst_calls _ _ _ _ _ _ HST.out).mono ?_; rintro e w3 ⟨rfl, ys, h1, h2, h3, h4⟩; have HY1 := Aside0.mk h1; have HY2 := Aside0.mk h2; have HS3 := Aside0.mk h3; have HG3 := Aside0.mk h4; clear h1 h2 h3 h4) | (go_at_call 49; refine (clip_calls _ _ _ HCAP.out _ (fun q => absurd q (by simp))).mono ?_; rintro e w4 ⟨rfl, rfl⟩))
      go_ret
      refine ⟨some ⟨g, 0, none⟩, ws.length, (by rw [HSL.out]; rfl), ?_, by rw [HSL.out]; exact Nat.le_refl _, pw_below_grown HB2.out (some g) HB2.out.size HG3.out (fun k hk => by injection hk with hk; rw [← hk]; exact HGE.out)⟩
      have := C_of_sb HS3.out (by rw [HY2.out]; have := H40.out; omega)
      rw [HY1.out, HY2.out] at this
      rw [HSL.out]
      exact this
  · rw [if_neg hk] at h
    exact absurd h (by simp)

end Go.Proofs.YtpgeimihmkampaaDoor.C
