-- WRITTEN BY mkprint.py, a program of this session, over the kit's print of the given program. Not trusted: Lean checks it.
import Derived.Test.YtpgeimihmkampaaDoorCx0
import Derived.Test.YtpgeimihmkampaaDoorCx1
import Derived.Test.YtpgeimihmkampaaDoorCx46
import Derived.Test.YtpgeimihmkampaaDoorCx48
namespace Go.Proofs.YtpgeimihmkampaaDoor.C
open Go.RowKit Go.Proofs.YtpgeimihmkampaaDoorW.PrintWords Go.Proofs.YtpgeimihmkampaaDoorW.PrintLast Go.Proofs.YtpgeimihmkampaaDoorW.PrintMore
attribute [local go_sem] max2_int min2_int max_two min_two max_three min_three max_four min_four   -- for this text's walks alone
set_option linter.unusedVariables false
set_option linter.unusedSimpArgs false

/-! ### slices_stableCmpFunc_string: function 54 -/
set_option maxHeartbeats 400000 in
theorem sh_nil {a : Nat} {xs ys : List Tg} (h : Stb.Sh a a xs ys) : ys = xs := Stb.el_ext h.len (fun t _ => h.out t (by omega))
/-- What the stable sort leaves. -/
def Done (w w' : World) (g cap : Nat) (xs : List Tg) (cf : Tg → Tg → Int) : Prop := ∃ ys : List Tg, ys.Perm xs ∧ Stb.Asc cf Prod.snd ys 0 xs.length ∧ Sb w' g cap ys ∧ w.grownBy w' (some g)
theorem ins_at {cf : Tg → Tg → Int} (C : Stb.Cmp cf) {w : World} {g cap bw N : Nat} {xs ys : List Tg} (hc : Cmps w g bw xs cf) (hN : xs.length = N) (hs : N ≤ 1000000) (ht : ∀ u v, u < v → v < N → (Stb.el xs u).2 < (Stb.el xs v).2) (a b : Nat) (hab : a ≤ b) (hb : b ≤ N) (hy : Stb.Sh 0 a xs ys) {W : World} (hW : Sb W g cap ys) (hg : w.grownBy W (some g)) :
    Calls Tryd.prog 56 #[.slice (some ⟨g, 0, none⟩) N cap, .int .i64 a, .int .i64 b, .func (.func 52) #[] #[.pointer (some ⟨bw, 0, none⟩)]] W fun e w' => e = .returned (.tuple #[]) ∧ ∃ zs, Stb.Sh a b ys zs ∧ Stb.Asc cf Prod.snd zs a b ∧ Sb w' g cap zs ∧ w.grownBy w' (some g) := by
  have hl := hy.len
  have h := ins_calls C hW (hc.grown hg hy.perm) a b hab (by omega) (by omega) (fun u v u1 uv v1 => by
    rw [hy.out u (.inr u1), hy.out v (.inr (by omega))]
    exact ht u v uv (by omega))
  rw [show ys.length = N by omega] at h
  refine h.mono ?_
  rintro e w' ⟨rfl, zs, h1, h2, h3, h4⟩
  exact ⟨rfl, zs, h1, h2, h3, sg_trans hg h4⟩
theorem sym_at {cf : Tg → Tg → Int} (C : Stb.Cmp cf) {w : World} {g cap bw N : Nat} {xs ys zs : List Tg} (hc : Cmps w g bw xs cf) (hN : xs.length = N) (hs : N ≤ 1000000) (ht : ∀ u v, u < v → v < N → (Stb.el xs u).2 < (Stb.el xs v).2) (h20 : 20 < N) (hy : Stb.Sh 0 20 xs ys) (hya : Stb.Asc cf Prod.snd ys 0 20) (hz : Stb.Sh 20 N ys zs) (hza : Stb.Asc cf Prod.snd zs 20 N) {W : World} (hW : Sb W g cap zs) (hg : w.grownBy W (some g)) :
    Calls Tryd.prog 57 #[.slice (some ⟨g, 0, none⟩) N cap, .int .i64 (0 : Nat), .int .i64 (20 : Nat), .int .i64 N, .func (.func 52) #[] #[.pointer (some ⟨bw, 0, none⟩)]] W fun e w' => e = .returned (.tuple #[]) ∧ Done w w' g cap xs cf := by
  have hl := hy.len
  have hl2 := hz.len
  have h := sym_calls C (N + 1) hW (hc.grown hg (hz.perm.trans hy.perm)) 0 20 N (by omega) h20 (by omega) (by omega) (by omega) (fun i j i1 ij j1 => by
    rw [hz.out i (.inl (by omega)), hz.out j (.inl (by omega))]
    exact hya i j i1 ij j1) hza (fun i j i1 i2 j1 j2 => by
    obtain ⟨s, s1, s2, e1⟩ := hy.inn i i1 i2
    obtain ⟨t, t1, t2, e2⟩ := hz.inn j j1 j2
    rw [hz.out i (.inl (by omega)), e1, e2, hy.out t (.inr t1)]
    exact ht s t (by omega) t2)
  rw [show zs.length = N by omega] at h
  refine h.mono ?_
  rintro e w' ⟨rfl, vs, h1, h2, h3, h4⟩
  exact ⟨rfl, vs, h1.perm.trans (hz.perm.trans hy.perm), by rw [hN]; exact h2, h3, sg_trans hg h4⟩
set_option maxHeartbeats 8000000 in
set_option maxRecDepth 100000 in
theorem stab_a {cf : Tg → Tg → Int} (C : Stb.Cmp cf) {w : World} {g cap bw N : Nat} {xs : List Tg} (h : Sb w g cap xs) (hc : Cmps w g bw xs cf) (hN : xs.length = N) (hn : N < 20) (ht : ∀ u v, u < v → v < N → (Stb.el xs u).2 < (Stb.el xs v).2) :
    Calls Tryd.prog 54 #[.slice (some ⟨g, 0, none⟩) N cap, .int .i64 N, .func (.func 52) #[] #[.pointer (some ⟨bw, 0, none⟩)]] w fun e w' => e = .returned (.tuple #[]) ∧ Done w w' g cap xs cf := by
  have H1 := Aside0.mk (ins_at C hc hN (by omega) ht 0 N (by omega) (Nat.le_refl _) (Stb.Sh.refl 0 0 xs) h (sg_refl _ _))
  have HN := Aside0.mk hN
  have d1 : decide ((20 : Int) ≤ (N : Int)) = false := decide_eq_false (by omega)
  have d2 : decide ((20 : Int) < (N : Int)) = false := decide_eq_false (by omega)
  have d3 : decide (20 ≤ N) = false := decide_eq_false (by omega)
  have d4 : decide (20 < N) = false := decide_eq_false (by omega)
  clear h hc hN hn ht
  go_enter Tryd.func54, Tryd.ntmps54
  go_wp2
  refine wp_loop_rounds 1 ?_
  rw [rounds_succ]
  go_wp2_with (first | (go_at_call 56; refine H1.out.mono ?_; rintro e w1 ⟨rfl, zs, h1, h2, h3, h4⟩; have HD := Aside0.mk (show Done w w1 g cap xs cf from ⟨zs, h1.perm, by rw [HN.out]; exact h2, h3, h4⟩); clear h1 h2 h3 h4))
  refine wp_loop_rounds 1 ?_
  rw [rounds_succ]
  go_wp2
  go_end0
  exact ⟨rfl, HD.out⟩
set_option maxHeartbeats 8000000 in
set_option maxRecDepth 100000 in
theorem stab_b {cf : Tg → Tg → Int} (C : Stb.Cmp cf) {w : World} {g cap bw : Nat} {xs : List Tg} (h : Sb w g cap xs) (hc : Cmps w g bw xs cf) (hN : xs.length = 20) (ht : ∀ u v, u < v → v < 20 → (Stb.el xs u).2 < (Stb.el xs v).2) :
    Calls Tryd.prog 54 #[.slice (some ⟨g, 0, none⟩) 20 cap, .int .i64 20, .func (.func 52) #[] #[.pointer (some ⟨bw, 0, none⟩)]] w fun e w' => e = .returned (.tuple #[]) ∧ Done w w' g cap xs cf := by
  have H1 := Aside0.mk (show Calls Tryd.prog 56 #[.slice (some ⟨g, 0, none⟩) 20 cap, .int .i64 0, .int .i64 20, .func (.func 52) #[] #[.pointer (some ⟨bw, 0, none⟩)]] w _ from ins_at C hc hN (by omega) ht 0 20 (by omega) (Nat.le_refl _) (Stb.Sh.refl 0 0 xs) h (sg_refl _ _))
  have H2 := Aside0.mk (fun (W : World) (ys : List Tg) (hy : Stb.Sh 0 20 xs ys) (hW : Sb W g cap ys) (hg : w.grownBy W (some g)) => (show Calls Tryd.prog 56 #[.slice (some ⟨g, 0, none⟩) 20 cap, .int .i64 20, .int .i64 20, .func (.func 52) #[] #[.pointer (some ⟨bw, 0, none⟩)]] W _ from ins_at C hc hN (by omega) ht 20 20 (Nat.le_refl _) (Nat.le_refl _) hy hW hg))
  have HN := Aside0.mk hN
  clear h hc hN ht
  go_enter Tryd.func54, Tryd.ntmps54
  go_wp2
  refine wp_loop_rounds 2 ?_
  rw [rounds_succ]
  go_wp2_with (first | (go_at_call 56; refine H1.out.mono ?_; rintro e w1 ⟨rfl, ys, h1, h2, h3, h4⟩; have HS1 := Aside0.mk h1; have HA1 := Aside0.mk h2; have HB1 := Aside0.mk h3; have HG1 := Aside0.mk h4; clear h1 h2 h3 h4))
  rw [rounds_succ]
  go_wp2_with (first | (go_at_call 56; refine (H2.out _ _ HS1.out HB1.out HG1.out).mono ?_; rintro e w2 ⟨rfl, zs, h1, h2, h3, h4⟩; have HD := Aside0.mk (show Done w w2 g cap xs cf from ⟨zs, by rw [sh_nil h1]; exact HS1.out.perm, by rw [HN.out, sh_nil h1]; exact HA1.out, h3, h4⟩); clear h1 h2 h3 h4))
  refine wp_loop_rounds 1 ?_
  rw [rounds_succ]
  go_wp2
  go_end0
  exact ⟨rfl, HD.out⟩
set_option maxHeartbeats 8000000 in
set_option maxRecDepth 100000 in
theorem stab_c {cf : Tg → Tg → Int} (C : Stb.Cmp cf) {w : World} {g cap bw N : Nat} {xs : List Tg} (h : Sb w g cap xs) (hc : Cmps w g bw xs cf) (hN : xs.length = N) (h1 : 20 < N) (h2 : N < 40) (ht : ∀ u v, u < v → v < N → (Stb.el xs u).2 < (Stb.el xs v).2) :
    Calls Tryd.prog 54 #[.slice (some ⟨g, 0, none⟩) N cap, .int .i64 N, .func (.func 52) #[] #[.pointer (some ⟨bw, 0, none⟩)]] w fun e w' => e = .returned (.tuple #[]) ∧ Done w w' g cap xs cf := by
  have H1 := Aside0.mk (show Calls Tryd.prog 56 #[.slice (some ⟨g, 0, none⟩) N cap, .int .i64 0, .int .i64 20, .func (.func 52) #[] #[.pointer (some ⟨bw, 0, none⟩)]] w _ from ins_at C hc hN (by omega) ht 0 20 (by omega) (by omega) (Stb.Sh.refl 0 0 xs) h (sg_refl _ _))
  have H2 := Aside0.mk (fun (W : World) (ys : List Tg) (hy : Stb.Sh 0 20 xs ys) (hW : Sb W g cap ys) (hg : w.grownBy W (some g)) => (show Calls Tryd.prog 56 #[.slice (some ⟨g, 0, none⟩) N cap, .int .i64 20, .int .i64 N, .func (.func 52) #[] #[.pointer (some ⟨bw, 0, none⟩)]] W _ from ins_at C hc hN (by omega) ht 20 N (by omega) (Nat.le_refl _) hy hW hg))
  have H3 := Aside0.mk (fun (W : World) (ys zs : List Tg) (hy : Stb.Sh 0 20 xs ys) (hya : Stb.Asc cf Prod.snd ys 0 20) (hz : Stb.Sh 20 N ys zs) (hza : Stb.Asc cf Prod.snd zs 20 N) (hW : Sb W g cap zs) (hg : w.grownBy W (some g)) => (show Calls Tryd.prog 57 #[.slice (some ⟨g, 0, none⟩) N cap, .int .i64 0, .int .i64 20, .int .i64 N, .func (.func 52) #[] #[.pointer (some ⟨bw, 0, none⟩)]] W _ from sym_at C hc hN (by omega) ht h1 hy hya hz hza hW hg))
  have d1 : decide ((20 : Int) ≤ (N : Int)) = true := decide_eq_true (by omega)
  have d2 : decide ((20 : Int) < (N : Int)) = true := decide_eq_true (by omega)
  have d3 : decide (20 ≤ N) = true := decide_eq_true (by omega)
  have d4 : decide (20 < N) = true := decide_eq_true (by omega)
  have d5 : decide ((40 : Int) ≤ (N : Int)) = false := decide_eq_false (by omega)
  have d6 : decide ((40 : Int) < (N : Int)) = false := decide_eq_false (by omega)
  have d7 : decide (40 ≤ N) = false := decide_eq_false (by omega)
  have d8 : decide (40 < N) = false := decide_eq_false (by omega)
  clear h hc hN ht h1 h2
  go_enter Tryd.func54, Tryd.ntmps54
  go_wp2
  refine wp_loop_rounds 2 ?_
  rw [rounds_succ]
  go_wp2_with (first | (go_at_call 56; refine H1.out.mono ?_; rintro e w1 ⟨rfl, ys, h1, h2, h3, h4⟩; have HS1 := Aside0.mk h1; have HA1 := Aside0.mk h2; have HB1 := Aside0.mk h3; have HG1 := Aside0.mk h4; clear h1 h2 h3 h4))
  rw [rounds_succ]
  go_wp2_with (first | (go_at_call 56; refine (H2.out _ _ HS1.out HB1.out HG1.out).mono ?_; rintro e w2 ⟨rfl, zs, h1, h2, h3, h4⟩; have HS2 := Aside0.mk h1; have HA2 := Aside0.mk h2; have HB2 := Aside0.mk h3; have HG2 := Aside0.mk h4; clear h1 h2 h3 h4))
  refine wp_loop_rounds 2 ?_
  rw [rounds_succ]
  go_wp2
  refine wp_loop_rounds 1 ?_
  rw [rounds_succ]
  go_wp2_with (first | (go_at_call 57; refine (H3.out _ _ _ HS1.out HA1.out HS2.out HA2.out HB2.out HG2.out).mono ?_; rintro e w3 ⟨rfl, hd⟩; have HD := Aside0.mk hd; clear hd))
  rw [rounds_succ]
  go_wp2
  go_end0
  exact ⟨rfl, HD.out⟩
set_option maxHeartbeats 8000000 in
set_option maxRecDepth 100000 in
theorem stab_d {cf : Tg → Tg → Int} (C : Stb.Cmp cf) {w : World} {g cap bw : Nat} {xs : List Tg} (h : Sb w g cap xs) (hc : Cmps w g bw xs cf) (hN : xs.length = 40) (ht : ∀ u v, u < v → v < 40 → (Stb.el xs u).2 < (Stb.el xs v).2) :
    Calls Tryd.prog 54 #[.slice (some ⟨g, 0, none⟩) 40 cap, .int .i64 40, .func (.func 52) #[] #[.pointer (some ⟨bw, 0, none⟩)]] w fun e w' => e = .returned (.tuple #[]) ∧ Done w w' g cap xs cf := by
  have H1 := Aside0.mk (show Calls Tryd.prog 56 #[.slice (some ⟨g, 0, none⟩) 40 cap, .int .i64 0, .int .i64 20, .func (.func 52) #[] #[.pointer (some ⟨bw, 0, none⟩)]] w _ from ins_at C hc hN (by omega) ht 0 20 (by omega) (by omega) (Stb.Sh.refl 0 0 xs) h (sg_refl _ _))
  have H2 := Aside0.mk (fun (W : World) (ys : List Tg) (hy : Stb.Sh 0 20 xs ys) (hW : Sb W g cap ys) (hg : w.grownBy W (some g)) => (show Calls Tryd.prog 56 #[.slice (some ⟨g, 0, none⟩) 40 cap, .int .i64 20, .int .i64 40, .func (.func 52) #[] #[.pointer (some ⟨bw, 0, none⟩)]] W _ from ins_at C hc hN (by omega) ht 20 40 (by omega) (Nat.le_refl _) hy hW hg))
  have H4 := Aside0.mk (fun (W : World) (zs : List Tg) (hz : Stb.Sh 0 40 xs zs) (hW : Sb W g cap zs) (hg : w.grownBy W (some g)) => (show Calls Tryd.prog 56 #[.slice (some ⟨g, 0, none⟩) 40 cap, .int .i64 40, .int .i64 40, .func (.func 52) #[] #[.pointer (some ⟨bw, 0, none⟩)]] W _ from ins_at C hc hN (by omega) ht 40 40 (by omega) (Nat.le_refl _) hz hW hg))
  have H3 := Aside0.mk (fun (W : World) (ys zs : List Tg) (hy : Stb.Sh 0 20 xs ys) (hya : Stb.Asc cf Prod.snd ys 0 20) (hz : Stb.Sh 20 40 ys zs) (hza : Stb.Asc cf Prod.snd zs 20 40) (hW : Sb W g cap zs) (hg : w.grownBy W (some g)) => (show Calls Tryd.prog 57 #[.slice (some ⟨g, 0, none⟩) 40 cap, .int .i64 0, .int .i64 20, .int .i64 40, .func (.func 52) #[] #[.pointer (some ⟨bw, 0, none⟩)]] W _ from sym_at C hc hN (by omega) ht (by omega) hy hya hz hza hW hg))
  clear h hc hN ht
  go_enter Tryd.func54, Tryd.ntmps54
  go_wp2
  refine wp_loop_rounds 3 ?_
  rw [rounds_succ]
  go_wp2_with (first | (go_at_call 56; refine H1.out.mono ?_; rintro e w1 ⟨rfl, ys, h1, h2, h3, h4⟩; have HS1 := Aside0.mk h1; have HA1 := Aside0.mk h2; have HB1 := Aside0.mk h3; have HG1 := Aside0.mk h4; clear h1 h2 h3 h4))
  rw [rounds_succ]
  go_wp2_with (first | (go_at_call 56; refine (H2.out _ _ HS1.out HB1.out HG1.out).mono ?_; rintro e w2 ⟨rfl, zs, h1, h2, h3, h4⟩; have HS2 := Aside0.mk h1; have HA2 := Aside0.mk h2; have HB2 := Aside0.mk h3; have HG2 := Aside0.mk h4; clear h1 h2 h3 h4))
  rw [rounds_succ]
  go_wp2_with (first | (go_at_call 56; refine (H4.out _ _ ((HS1.out.mono (Nat.le_refl _) (by decide)).trans (HS2.out.mono (Nat.zero_le _) (Nat.le_refl _))) HB2.out HG2.out).mono ?_; rintro e w3 ⟨rfl, us, h1, h2, h3, h4⟩; obtain rfl := sh_nil h1; have HB3 := Aside0.mk h3; have HG3 := Aside0.mk h4; clear h1 h2 h3 h4))
  refine wp_loop_rounds 2 ?_
  rw [rounds_succ]
  go_wp2
  refine wp_loop_rounds 2 ?_
  rw [rounds_succ]
  go_wp2_with (first | (go_at_call 57; refine (H3.out _ _ _ HS1.out HA1.out HS2.out HA2.out HB3.out HG3.out).mono ?_; rintro e w4 ⟨rfl, hd⟩; have HD := Aside0.mk hd; clear hd))
  rw [rounds_succ]
  go_wp2
  rw [rounds_succ]
  go_wp2
  go_end0
  exact ⟨rfl, HD.out⟩

end Go.Proofs.YtpgeimihmkampaaDoor.C
