-- WRITTEN BY mkprint.py, a program of this session, over the kit's print of the given program. Not trusted: Lean checks it.
import Derived.Test.YtfecolaljnijbaaDoorCx0
import Derived.Test.YtfecolaljnijbaaDoorCx2
import Derived.Test.YtfecolaljnijbaaDoorCx4
import Derived.Test.YtfecolaljnijbaaDoorCx7
namespace Go.Proofs.YtfecolaljnijbaaDoor.C
open Go.RowKit Go.Proofs.YtfecolaljnijbaaDoorW.PrintWords Go.Proofs.YtfecolaljnijbaaDoorW.PrintLast Go.Proofs.YtfecolaljnijbaaDoorW.PrintMore
attribute [local go_sem] max2_int min2_int max_two min_two max_three min_three max_four min_four   -- for this text's walks alone
set_option linter.unusedVariables false
set_option linter.unusedSimpArgs false

/-! ### bidi_Levels: function 19 -/
set_option maxHeartbeats 8000000 in
set_option maxRecDepth 100000 in
theorem lev0_calls {w : World} {b8 b5 g : Nat} {A5 : Option Addr} {c5 : Nat} {cs zs : List Int} (h : Lv w b8 b5 g A5 c5 cs zs) (i : Nat) (hi : i < cs.length) :
    Calls Tryd.prog 32 #[.int .i64 (i : Int), .pointer (some ⟨b8, 0, none⟩), .pointer (some ⟨b5, 0, none⟩)] w fun e w' => e = .returned (.tuple #[]) ∧ Lv w' b8 b5 g A5 c5 cs (zs.set i (lev0 cs i)) ∧ w.grownBy w' (some g) := by
  have HL := Aside0.mk h
  have HL1 := Aside0.mk (h.set i 1)
  have HG1 := Aside0.mk (grown_set w g i (.int .i64 1))
  have HL2 := Aside0.mk ((h.set i 1).set i 2)
  have HG2 := Aside0.mk (grown_trans (grown_set w g i (.int .i64 1)) (grown_set (w.setCell ⟨g, i, none⟩ (.int .i64 1)) g i (.int .i64 2)))
  have h8 := h.out
  have h5 := HL1.out.cls
  have h8b := HL1.out.out
  have hx := h.cell hi
  have hf := h.free i
  have hx1 := HL1.out.cell hi
  have hf1 := HL1.out.free i
  obtain ⟨ad, e, hc⟩ := (C_cells HL1.out.rds).2 (by omega)
  have hr := hc i hi
  have p1 : (0 ≤ (i : Int)) = True := eq_true (by omega)
  have q1 : ((i : Int) < (cs.length : Int)) = True := eq_true (by omega)
  rw [List.length_set, h.len] at h8b
  rw [h.len] at h8
  have hrd : cs.getD i 0 = rd cs (i : Int) := by simp [rd]
  rw [hrd] at hr
  subst e
  clear hc hrd
  by_cases c : rd cs (i : Int) = 3
  · have he : lev0 cs i = 2 := by unfold lev0; rw [if_pos c]
    have hs : (zs.set i 1).set i 2 = zs.set i 2 := by simp
    have HS := Aside0.mk hs
    rw [he]
    rw [c] at hr
    clear h he hs hi c
    go_enter Tryd.func32, Tryd.ntmps32
    go_wp2
    go_end0
    exact ⟨rfl, HS.out ▸ HL2.out, HG2.out⟩
  · have he : lev0 cs i = 1 := by unfold lev0; rw [if_neg c]
    have hb : (rd cs (i : Int) == 3) = false := beq_eq_false_iff_ne.mpr c
    rw [he]
    clear h he hi c
    go_enter Tryd.func32, Tryd.ntmps32
    go_wp2
    go_end0
    exact ⟨rfl, HL1.out, HG1.out⟩
set_option maxHeartbeats 8000000 in
set_option maxRecDepth 100000 in
theorem lev1_calls {w : World} {b8 b5 g : Nat} {A5 : Option Addr} {c5 : Nat} {cs zs : List Int} (h : Lv w b8 b5 g A5 c5 cs zs) (i : Nat) (hi : i < cs.length) :
    Calls Tryd.prog 34 #[.int .i64 (i : Int), .pointer (some ⟨b8, 0, none⟩)] w fun e w' => e = .returned (.tuple #[]) ∧ Lv w' b8 b5 g A5 c5 cs (zs.set i (lev1 i)) ∧ w.grownBy w' (some g) := by
  have HL1 := Aside0.mk (h.set i 2)
  have HG1 := Aside0.mk (grown_set w g i (.int .i64 2))
  have h8 := h.out
  have hx := h.cell hi
  have hf := h.free i
  have p1 : (0 ≤ (i : Int)) = True := eq_true (by omega)
  have q1 : ((i : Int) < (cs.length : Int)) = True := eq_true (by omega)
  rw [h.len] at h8
  clear h hi
  go_enter Tryd.func34, Tryd.ntmps34
  go_wp2
  go_end0
  exact ⟨rfl, HL1.out, HG1.out⟩
theorem wInfo3 : (Tryd.prog.info? 3).map (fun i => (i.zero, i.size, i.bytes)) = some (some (.int .i64 0), 1, 8) := by kernel_rfl
theorem R_of_blk {w : World} {base g : Nat} {xs : List Int} (hb : base ≤ g) (h : w.heap[g]? = some (.cells (xs.map (Value.int .i64)).toArray 3 (0, 0))) (hm : xs.length ≤ 1000000) : Kd.R (Kd.int .i64) 3 w base (fun _ => True) (.slice (some ⟨g, 0, none⟩) xs.length xs.length) xs := by
  refine ⟨fun _ _ => trivial, xs.map (Value.int .i64), ⟨by simp [Kd.int, Kd.scalar], .inr ⟨g, xs.length, (xs.map (Value.int .i64)).toArray, rfl, hb, h, Nat.le_refl _, by unfold maxLen; omega, by simp [Kd.int, Kd.scalar], by simp [Kd.int, Kd.scalar]; rw [← List.length_map (f := Value.int .i64), List.take_length]⟩⟩, by simp [Kd.int, Kd.scalar], fun j p hj => ?_⟩
  show (((xs.map (Value.int .i64)).drop (j * 1)).take 1) = [Value.int .i64 p]
  have hjl := (List.getElem?_eq_some_iff.1 hj).1
  rw [Nat.mul_one, List.drop_eq_getElem_cons (by simpa using hjl)]
  simp only [List.take_succ_cons, List.take_zero, List.getElem_map]
  rw [List.getElem?_eq_getElem hjl] at hj
  rw [Option.some.inj hj]
theorem made_zero (n : Nat) : madeCells #[.int .i64 0] n = ((List.replicate n (0 : Int)).map (Value.int .i64)).toArray := by
  apply Array.ext_getElem?
  intro i
  by_cases h : i < n
  · rw [Array.getElem?_eq_getElem (by rw [size_madeCells]; exact h)]
    simp [madeCells, h, Nat.mod_one]
  · rw [Array.getElem?_eq_none (by rw [size_madeCells]; omega), Array.getElem?_eq_none (by simp; omega)]
theorem run_make29 (W : World) (n : Nat) (h : n ≤ 1000000) : (Instr.makeSlice 29 (.int .i64 (n : Int)) (.int .i64 (n : Int))).run Tryd.prog W = .ok (.slice (some ⟨W.heap.size, 0, none⟩) n n) (W.alloc (.cells ((List.replicate n (0 : Int)).map (Value.int .i64)).toArray 3)) := by
  obtain ⟨i0, hi, hzz⟩ := Option.map_eq_some_iff.1 wInfo3
  simp only [Prod.mk.injEq] at hzz
  obtain ⟨hz0, hz1, hz2⟩ := hzz
  have hr := run_make (P := Tryd.prog) W 29 3 i0 (.int .i64 0) Tryd.underlying29 hi hz0 .i64 .i64 (n : Int) (n : Int) (by omega) (by omega) (by rw [hz2]; omega) (by omega)
  rw [hz1, Int.toNat_natCast, Nat.mul_one] at hr
  rw [hr, ← made_zero]
  rfl
theorem classesL_len (k : Nat) : ∀ (xs cs : List Int), classesL k xs = some cs → cs.length = xs.length
  | [], cs, h => by
    obtain rfl := Option.some.inj h
    rfl
  | x :: xs, cs, h => by
    unfold classesL at h
    obtain ⟨c, _, h⟩ := Option.bind_eq_some_iff.mp h
    obtain ⟨cs', h1, h⟩ := Option.bind_eq_some_iff.mp h
    obtain rfl := Option.some.inj h
    rw [List.length_cons, List.length_cons, classesL_len k xs cs' h1]
theorem fill_len (f : Nat → Int) : ∀ m i zs, (fill f m i zs).length = zs.length
  | 0, _, _ => rfl
  | m + 1, i, zs => by unfold fill; rw [fill_len f m]; simp
theorem raiseL_len (p : Int → Bool) (never : Int) (f : Nat → Int) (cs : List Int) : ∀ d i zs, (raiseL p never f cs d i zs).length = zs.length
  | 0, _, _ => rfl
  | d + 1, i, zs => by
    unfold raiseL
    split
    · split
      · rw [raiseL_len p never f cs d, fill_len]
      · exact raiseL_len p never f cs d _ _
    · rfl
theorem levelsL_len (base : Int) (cs : List Int) : (levelsL base cs).length = cs.length := by
  unfold levelsL
  split <;> rw [raiseL_len] <;> simp
/-- What Levels hands back: nothing, or a block of its own that holds just the levels. -/
structure Made (w w' : World) (v : Value) (r : List Int) : Prop where
  val : (v = .slice none 0 0 ∧ r = []) ∨ ∃ g, v = .slice (some ⟨g, 0, none⟩) r.length r.length ∧ w.heap.size ≤ g ∧ w'.heap[g]? = some (.cells (r.map (Value.int .i64)).toArray 3 (0, 0)) ∧ r.length ≤ 1000000
  bel : Below w.heap.size w w'
/-- The world when Levels begins to raise. -/
theorem lv_start {wr : World} {b5 : Nat} {A5 : Option Addr} {c5 : Nat} {cs : List Int} (h5 : wr.heap[b5]? = some (.cells #[.slice A5 cs.length c5] 29 (0, 0))) (hc : Kd.C (Kd.int .i64) wr A5 cs.length cs) (hl : cs.length ≤ c5) (hs : cs.length ≤ 1000000)
    (hA : ∀ a, A5 = some a → a.block < wr.heap.size) :
    Lv ((wr.alloc (.cells ((List.replicate cs.length (0 : Int)).map (Value.int .i64)).toArray 3)).alloc (.cells #[.slice (some ⟨wr.heap.size, 0, none⟩) cs.length cs.length] 29)) (wr.heap.size + 1) b5 wr.heap.size A5 c5 cs (List.replicate cs.length 0) := by
  have hlt : b5 < wr.heap.size := blk_lt h5
  have hz : (wr.alloc (Obj.cells ((List.replicate cs.length (0 : Int)).map (Value.int .i64)).toArray 3)).heap.size = wr.heap.size + 1 := by simp
  have hb : Below wr.heap.size wr ((wr.alloc (.cells ((List.replicate cs.length (0 : Int)).map (Value.int .i64)).toArray 3)).alloc (.cells #[.slice (some ⟨wr.heap.size, 0, none⟩) cs.length cs.length] 29)) := below_alloc (below_alloc (Below.refl _ _) _) _
  have hn := blk_new (wr.alloc (.cells ((List.replicate cs.length (0 : Int)).map (Value.int .i64)).toArray 3)) (.cells #[.slice (some ⟨wr.heap.size, 0, none⟩) cs.length cs.length] 29)
  rw [hz] at hn
  refine ⟨?_, pw_cell_below hb ((blk_cell h5 0).trans rfl), blk_alloc (blk_new wr _) _, Kd.C_below hc hb, hl, by simp, hs, by omega, by omega, fun a e => by have := hA a e; omega⟩
  rw [List.length_replicate]
  exact (blk_cell hn 0).trans rfl
set_option maxHeartbeats 8000000 in
set_option maxRecDepth 100000 in
theorem raise0_calls {w : World} {b8 b5 g : Nat} {A5 : Option Addr} {c5 : Nat} {cs zs : List Int} (h : Lv w b8 b5 g A5 c5 cs zs) :
    Calls Tryd.prog 30 #[.slice A5 cs.length c5, .func (.func 31) #[] #[], .int .i64 1, .func (.func 32) #[] #[.pointer (some ⟨b8, 0, none⟩), .pointer (some ⟨b5, 0, none⟩)]] w fun e w' => e = .returned (.tuple #[]) ∧ Lv w' b8 b5 g A5 c5 cs (raiseL end0 1 (lev0 cs) cs (cs.length + 1) 0 zs) ∧ w.grownBy w' (some g) := by
  have HS := Aside0.mk (show (cs.length : Int) ≤ 1000000 by have := h.small; omega)
  have HL0 := Aside0.mk h
  clear h
  obtain ⟨FIN, hfin⟩ : ∃ F, raiseL end0 1 (lev0 cs) cs (cs.length + 1) 0 zs = F := ⟨_, rfl⟩
  rw [hfin]
  have HFIN := Aside0.mk hfin
  clear hfin
  go_enter Tryd.func30, Tryd.ntmps30
  go_wp2
  go_loopg [8] (cs.length + 1) (fun kq v8 w' => ∃ (i : Nat) (ys : List Int), v8 = .int .i64 (i : Int) ∧ Aside0 (raiseL end0 1 (lev0 cs) cs kq i ys = FIN) ∧ Aside0 (i ≤ cs.length) ∧ Aside0 (cs.length < i + kq) ∧ Aside0 (Lv w' b8 b5 g A5 c5 cs ys) ∧ Aside0 (w.grownBy w' (some g)))
  case atStart => exact ⟨0, zs, (by first | rfl | (simp; done)), HFIN, ⟨Nat.zero_le _⟩, ⟨by omega⟩, HL0, ⟨grown_refl _ _⟩⟩
  case round =>
    obtain ⟨i, ys, rfl, HA, HI, HK, HL, HG⟩ := hrel
    by_cases c1 : i < cs.length
    · obtain ⟨k1, rfl⟩ : ∃ m, gk = m + 1 := ⟨gk - 1, by have := HK.out; omega⟩
      have H := HA.out
      simp only [raiseL] at H
      rw [if_pos c1] at H
      obtain ⟨ad, e, hc⟩ := (C_cells HL.out.rds).2 (by omega)
      subst e
      have HC := Aside0.mk hc
      have hr := hc i c1
      have hrd : cs.getD i 0 = rd cs (i : Int) := by simp [rd]
      rw [hrd] at hr
      have p1 : (0 ≤ (i : Int)) = True := eq_true (by omega)
      have q1 : ((i : Int) < (cs.length : Int)) = True := eq_true (by omega)
      have q1b : decide ((i : Int) < (cs.length : Int)) = true := decide_eq_true (by omega)
      have q1bn : decide (i < cs.length) = true := decide_eq_true (by omega)
      have C1 := Aside0.mk c1
      have hwi : wrap64 ((i : Int) + 1) = ((i + 1 : Nat) : Int) := by have := HS.out; unfold wrap64; omega
      clear hc hrd HA
      by_cases c2 : end0 (rd cs (i : Int)) = true
      · rw [if_pos c2] at H
        have HA := Aside0.mk H
        have C2 := Aside0.mk c2
        clear H c1 c2
        go_wp2_with (first | (go_at_call 31; (with_reducible refine (end0_calls _ _).mono ?_); rintro e w1 ⟨rfl, rfl⟩; rw [C2.out]))
        clear hr p1 q1 q1b q1bn hwi
        go_loopg [9, 10] (cs.length + 1) (fun kq v9 v10 w' => ∃ (last j : Nat), v9 = .int .i64 (last : Int) ∧ v10 = .int .i64 (j : Int) ∧ Aside0 (scan end0 1 (cs.drop j) j last = scan end0 1 (cs.drop i) i i) ∧ Aside0 (last ≤ j ∧ j ≤ cs.length) ∧ Aside0 (cs.length < j + kq) ∧ w' = wr)
        case atStart => exact ⟨i, i, (by first | rfl | (simp; done)), (by first | rfl | (simp; done)), ⟨rfl⟩, ⟨Nat.le_refl _, HI.out⟩, ⟨by omega⟩, rfl⟩
        case round =>
          obtain ⟨last, j, rfl, rfl, HA2, HJ, HK2, rfl⟩ := hrel
          have H2 := HA2.out
          clear HA2
          by_cases d1 : j < cs.length
          · obtain ⟨k2, rfl⟩ : ∃ m, gk = m + 1 := ⟨gk - 1, by have := HK2.out; omega⟩
            rw [List.drop_eq_getElem_cons d1] at H2
            simp only [scan] at H2
            have hr := HC.out j d1
            have hrd : cs.getD j 0 = rd cs (j : Int) := by simp [rd]
            have hgt : cs[j] = rd cs (j : Int) := by simp [rd, List.getD, List.getElem?_eq_getElem d1]
            rw [hrd] at hr
            rw [hgt] at H2
            have p2 : (0 ≤ (j : Int)) = True := eq_true (by omega)
            have q2 : ((j : Int) < (cs.length : Int)) = True := eq_true (by omega)
            have q2b : decide ((j : Int) < (cs.length : Int)) = true := decide_eq_true (by omega)
            have q2bn : decide (j < cs.length) = true := decide_eq_true (by omega)
            have D1 := Aside0.mk d1
            have hwj : wrap64 ((j : Int) + 1) = ((j + 1 : Nat) : Int) := by have := HS.out; unfold wrap64; omega
            clear hrd hgt
            by_cases d2 : rd cs (j : Int) = 1
            · rw [if_pos d2] at H2
              have HLA := Aside0.mk H2
              have d2b : (rd cs (j : Int) != 1) = false := bne_eq_false_iff_eq.mpr d2
              clear H2 d1 d2 hwj
              go_wp2
              clear hr p2 q2 q2b q2bn d2b
              have HLB := Aside0.mk (show last < cs.length ∧ i ≤ last by
                have h1 := HLA.out
                have h2 := (scan_ge end0 1 (cs.drop i) i i (Nat.le_refl _))
                have h3 := scan_lt end0 1 (cs.drop i) i i
                rw [List.length_drop] at h2 h3
                have := C1.out
                omega)
              go_loopg [11] (cs.length + 1) (fun kq v11 w' => ∃ (j2 : Nat) (xs : List Int), v11 = .int .i64 (j2 : Int) ∧ Aside0 (fill (lev0 cs) (last + 1 - j2) j2 xs = fill (lev0 cs) (last + 1 - i) i ys) ∧ Aside0 (j2 ≤ last + 1) ∧ Aside0 (cs.length < j2 + kq) ∧ Aside0 (Lv w' b8 b5 g (some ad) c5 cs xs) ∧ Aside0 (w.grownBy w' (some g)))
              case atStart => exact ⟨i, ys, (by first | rfl | (simp; done)), ⟨rfl⟩, ⟨by have := HLB.out; omega⟩, ⟨by omega⟩, HL, HG⟩
              case round =>
                obtain ⟨j2, xs, rfl, HA3, HJ3, HK3, HL3, HG3⟩ := hrel
                have H3 := HA3.out
                clear HA3
                by_cases e1 : j2 ≤ last
                · obtain ⟨k3, rfl⟩ : ∃ m, gk = m + 1 := ⟨gk - 1, by have := HK3.out; have := HLB.out; omega⟩
                  rw [show last + 1 - j2 = (last + 1 - (j2 + 1)) + 1 by omega] at H3
                  simp only [fill] at H3
                  have HA3 := Aside0.mk H3
                  have e1b : decide ((j2 : Int) ≤ (last : Int)) = true := decide_eq_true (by omega)
                  have e1bn : decide (j2 ≤ last) = true := decide_eq_true (by omega)
                  have hwj : wrap64 ((j2 : Int) + 1) = ((j2 + 1 : Nat) : Int) := by have := HS.out; have := HLB.out; unfold wrap64; omega
                  have E1 := Aside0.mk e1
                  clear H3 e1
                  go_wp2_with (first | (go_at_call 32; (with_reducible refine (lev0_calls HL3.out j2 (by have := E1.out; have := HLB.out; omega)).mono ?_); rintro e w1 ⟨rfl, hL, hg⟩; have HL4 := Aside0.mk hL; have HG4 := Aside0.mk (grown_trans HG3.out hg); clear hL hg))
                  go_roundg k3
                  case measure => omega
                  case rel => exact ⟨j2 + 1, _, by rw [hwj], HA3, ⟨by have := E1.out; omega⟩, ⟨by have := HK3.out; omega⟩, HL4, HG4⟩
                · have e1b : decide ((j2 : Int) ≤ (last : Int)) = false := decide_eq_false (by omega)
                  have e1bn : decide (j2 ≤ last) = false := decide_eq_false (by omega)
                  rw [show last + 1 - j2 = 0 by omega] at H3
                  simp only [fill] at H3
                  have HX := Aside0.mk H3
                  have hwl : wrap64 ((last : Int) + 1) = ((last + 1 : Nat) : Int) := by have := HS.out; have := HLB.out; unfold wrap64; omega
                  clear H3 e1
                  go_wp2
                  go_roundg k1
                  case measure => omega
                  case rel => exact ⟨last + 1, xs, by rw [hwl], ⟨by have := HA.out; rw [HX.out, HLA.out]; exact this⟩, ⟨by have := HLB.out; omega⟩, ⟨by have := HK.out; have := HLB.out; omega⟩, HL3, HG3⟩
            · rw [if_neg d2] at H2
              have d2b : (rd cs (j : Int) != 1) = true := bne_iff_ne.mpr d2
              clear d1 d2
              by_cases d3 : end0 (rd cs (j : Int)) = true
              · rw [if_pos d3] at H2
                have HA2 := Aside0.mk H2
                have D3 := Aside0.mk d3
                clear H2 d3
                go_wp2_with (first | (go_at_call 31; (with_reducible refine (end0_calls _ _).mono ?_); rintro e w1 ⟨rfl, rfl⟩; rw [D3.out]))
                go_roundg k2
                case measure => omega
                case rel => exact ⟨j, j + 1, rfl, by rw [hwj], HA2, ⟨by omega, D1.out⟩, ⟨by have := HK2.out; omega⟩, rfl⟩
              · rw [if_neg d3] at H2
                have HA2 := Aside0.mk H2
                have D3 := Aside0.mk (Bool.eq_false_iff.mpr d3)
                clear H2 d3
                go_wp2_with (first | (go_at_call 31; (with_reducible refine (end0_calls _ _).mono ?_); rintro e w1 ⟨rfl, rfl⟩; rw [D3.out]))
                go_roundg k2
                case measure => omega
                case rel => exact ⟨last, j + 1, rfl, by rw [hwj], HA2, ⟨by have := HJ.out; omega, D1.out⟩, ⟨by have := HK2.out; omega⟩, rfl⟩
          · rw [List.drop_eq_nil_of_le (by omega)] at H2
            simp only [scan] at H2
            have HLA := Aside0.mk H2
            have q2b : decide ((j : Int) < (cs.length : Int)) = false := decide_eq_false (by omega)
            have q2bn : decide (j < cs.length) = false := decide_eq_false (by omega)
            clear H2 d1
            go_wp2
            clear q2b q2bn
            have HLB := Aside0.mk (show last < cs.length ∧ i ≤ last by
              have h1 := HLA.out
              have h2 := (scan_ge end0 1 (cs.drop i) i i (Nat.le_refl _))
              have h3 := scan_lt end0 1 (cs.drop i) i i
              rw [List.length_drop] at h2 h3
              have := C1.out
              omega)
            go_loopg [11] (cs.length + 1) (fun kq v11 w' => ∃ (j2 : Nat) (xs : List Int), v11 = .int .i64 (j2 : Int) ∧ Aside0 (fill (lev0 cs) (last + 1 - j2) j2 xs = fill (lev0 cs) (last + 1 - i) i ys) ∧ Aside0 (j2 ≤ last + 1) ∧ Aside0 (cs.length < j2 + kq) ∧ Aside0 (Lv w' b8 b5 g (some ad) c5 cs xs) ∧ Aside0 (w.grownBy w' (some g)))
            case atStart => exact ⟨i, ys, (by first | rfl | (simp; done)), ⟨rfl⟩, ⟨by have := HLB.out; omega⟩, ⟨by omega⟩, HL, HG⟩
            case round =>
              obtain ⟨j2, xs, rfl, HA3, HJ3, HK3, HL3, HG3⟩ := hrel
              have H3 := HA3.out
              clear HA3
              by_cases e1 : j2 ≤ last
              · obtain ⟨k3, rfl⟩ : ∃ m, gk = m + 1 := ⟨gk - 1, by have := HK3.out; have := HLB.out; omega⟩
                rw [show last + 1 - j2 = (last + 1 - (j2 + 1)) + 1 by omega] at H3
                simp only [fill] at H3
                have HA3 := Aside0.mk H3
                have e1b : decide ((j2 : Int) ≤ (last : Int)) = true := decide_eq_true (by omega)
                have e1bn : decide (j2 ≤ last) = true := decide_eq_true (by omega)
                have hwj : wrap64 ((j2 : Int) + 1) = ((j2 + 1 : Nat) : Int) := by have := HS.out; have := HLB.out; unfold wrap64; omega
                have E1 := Aside0.mk e1
                clear H3 e1
                go_wp2_with (first | (go_at_call 32; (with_reducible refine (lev0_calls HL3.out j2 (by have := E1.out; have := HLB.out; omega)).mono ?_); rintro e w1 ⟨rfl, hL, hg⟩; have HL4 := Aside0.mk hL; have HG4 := Aside0.mk (grown_trans HG3.out hg); clear hL hg))
                go_roundg k3
                case measure => omega
                case rel => exact ⟨j2 + 1, _, by rw [hwj], HA3, ⟨by have := E1.out; omega⟩, ⟨by have := HK3.out; omega⟩, HL4, HG4⟩
              · have e1b : decide ((j2 : Int) ≤ (last : Int)) = false := decide_eq_false (by omega)
                have e1bn : decide (j2 ≤ last) = false := decide_eq_false (by omega)
                rw [show last + 1 - j2 = 0 by omega] at H3
                simp only [fill] at H3
                have HX := Aside0.mk H3
                have hwl : wrap64 ((last : Int) + 1) = ((last + 1 : Nat) : Int) := by have := HS.out; have := HLB.out; unfold wrap64; omega
                clear H3 e1
                go_wp2
                go_roundg k1
                case measure => omega
                case rel => exact ⟨last + 1, xs, by rw [hwl], ⟨by have := HA.out; rw [HX.out, HLA.out]; exact this⟩, ⟨by have := HLB.out; omega⟩, ⟨by have := HK.out; have := HLB.out; omega⟩, HL3, HG3⟩
      · rw [if_neg c2] at H
        have HA := Aside0.mk H
        have C2 := Aside0.mk (Bool.eq_false_iff.mpr c2)
        clear H c1 c2
        go_wp2_with (first | (go_at_call 31; (with_reducible refine (end0_calls _ _).mono ?_); rintro e w1 ⟨rfl, rfl⟩; rw [C2.out]))
        go_roundg k1
        case measure => omega
        case rel => exact ⟨i + 1, ys, by rw [hwi], HA, ⟨C1.out⟩, ⟨by have := HK.out; omega⟩, HL, HG⟩
    · have q1b : decide ((i : Int) < (cs.length : Int)) = false := decide_eq_false (by omega)
      have q1bn : decide (i < cs.length) = false := decide_eq_false (by omega)
      have H : ys = FIN := by
        rw [← HA.out]
        cases gk with
        | zero => rfl
        | succ m => simp only [raiseL]; rw [if_neg c1]
      have HF := Aside0.mk H
      clear H c1 HA
      go_wp2
      go_end0
      exact ⟨rfl, HF.out ▸ HL.out, HG.out⟩
set_option maxHeartbeats 8000000 in
set_option maxRecDepth 100000 in
theorem raise1_calls {w : World} {b8 b5 g : Nat} {A5 : Option Addr} {c5 : Nat} {cs zs : List Int} (h : Lv w b8 b5 g A5 c5 cs zs) :
    Calls Tryd.prog 30 #[.slice A5 cs.length c5, .func (.func 33) #[] #[], .int .i64 2, .func (.func 34) #[] #[.pointer (some ⟨b8, 0, none⟩)]] w fun e w' => e = .returned (.tuple #[]) ∧ Lv w' b8 b5 g A5 c5 cs (raiseL end1 2 lev1 cs (cs.length + 1) 0 zs) ∧ w.grownBy w' (some g) := by
  have HS := Aside0.mk (show (cs.length : Int) ≤ 1000000 by have := h.small; omega)
  have HL0 := Aside0.mk h
  clear h
  obtain ⟨FIN, hfin⟩ : ∃ F, raiseL end1 2 lev1 cs (cs.length + 1) 0 zs = F := ⟨_, rfl⟩
  rw [hfin]
  have HFIN := Aside0.mk hfin
  clear hfin
  go_enter Tryd.func30, Tryd.ntmps30
  go_wp2
  go_loopg [8] (cs.length + 1) (fun kq v8 w' => ∃ (i : Nat) (ys : List Int), v8 = .int .i64 (i : Int) ∧ Aside0 (raiseL end1 2 lev1 cs kq i ys = FIN) ∧ Aside0 (i ≤ cs.length) ∧ Aside0 (cs.length < i + kq) ∧ Aside0 (Lv w' b8 b5 g A5 c5 cs ys) ∧ Aside0 (w.grownBy w' (some g)))
  case atStart => exact ⟨0, zs, (by first | rfl | (simp; done)), HFIN, ⟨Nat.zero_le _⟩, ⟨by omega⟩, HL0, ⟨grown_refl _ _⟩⟩
  case round =>
    obtain ⟨i, ys, rfl, HA, HI, HK, HL, HG⟩ := hrel
    by_cases c1 : i < cs.length
    · obtain ⟨k1, rfl⟩ : ∃ m, gk = m + 1 := ⟨gk - 1, by have := HK.out; omega⟩
      have H := HA.out
      simp only [raiseL] at H
      rw [if_pos c1] at H
      obtain ⟨ad, e, hc⟩ := (C_cells HL.out.rds).2 (by omega)
      subst e
      have HC := Aside0.mk hc
      have hr := hc i c1
      have hrd : cs.getD i 0 = rd cs (i : Int) := by simp [rd]
      rw [hrd] at hr
      have p1 : (0 ≤ (i : Int)) = True := eq_true (by omega)
      have q1 : ((i : Int) < (cs.length : Int)) = True := eq_true (by omega)
      have q1b : decide ((i : Int) < (cs.length : Int)) = true := decide_eq_true (by omega)
      have q1bn : decide (i < cs.length) = true := decide_eq_true (by omega)
      have C1 := Aside0.mk c1
      have hwi : wrap64 ((i : Int) + 1) = ((i + 1 : Nat) : Int) := by have := HS.out; unfold wrap64; omega
      clear hc hrd HA
      by_cases c2 : end1 (rd cs (i : Int)) = true
      · rw [if_pos c2] at H
        have HA := Aside0.mk H
        have C2 := Aside0.mk c2
        clear H c1 c2
        go_wp2_with (first | (go_at_call 33; (with_reducible refine (end1_calls _ _).mono ?_); rintro e w1 ⟨rfl, rfl⟩; rw [C2.out]))
        clear hr p1 q1 q1b q1bn hwi
        go_loopg [9, 10] (cs.length + 1) (fun kq v9 v10 w' => ∃ (last j : Nat), v9 = .int .i64 (last : Int) ∧ v10 = .int .i64 (j : Int) ∧ Aside0 (scan end1 2 (cs.drop j) j last = scan end1 2 (cs.drop i) i i) ∧ Aside0 (last ≤ j ∧ j ≤ cs.length) ∧ Aside0 (cs.length < j + kq) ∧ w' = wr)
        case atStart => exact ⟨i, i, (by first | rfl | (simp; done)), (by first | rfl | (simp; done)), ⟨rfl⟩, ⟨Nat.le_refl _, HI.out⟩, ⟨by omega⟩, rfl⟩
        case round =>
          obtain ⟨last, j, rfl, rfl, HA2, HJ, HK2, rfl⟩ := hrel
          have H2 := HA2.out
          clear HA2
          by_cases d1 : j < cs.length
          · obtain ⟨k2, rfl⟩ : ∃ m, gk = m + 1 := ⟨gk - 1, by have := HK2.out; omega⟩
            rw [List.drop_eq_getElem_cons d1] at H2
            simp only [scan] at H2
            have hr := HC.out j d1
            have hrd : cs.getD j 0 = rd cs (j : Int) := by simp [rd]
            have hgt : cs[j] = rd cs (j : Int) := by simp [rd, List.getD, List.getElem?_eq_getElem d1]
            rw [hrd] at hr
            rw [hgt] at H2
            have p2 : (0 ≤ (j : Int)) = True := eq_true (by omega)
            have q2 : ((j : Int) < (cs.length : Int)) = True := eq_true (by omega)
            have q2b : decide ((j : Int) < (cs.length : Int)) = true := decide_eq_true (by omega)
            have q2bn : decide (j < cs.length) = true := decide_eq_true (by omega)
            have D1 := Aside0.mk d1
            have hwj : wrap64 ((j : Int) + 1) = ((j + 1 : Nat) : Int) := by have := HS.out; unfold wrap64; omega
            clear hrd hgt
            by_cases d2 : rd cs (j : Int) = 2
            · rw [if_pos d2] at H2
              have HLA := Aside0.mk H2
              have d2b : (rd cs (j : Int) != 2) = false := bne_eq_false_iff_eq.mpr d2
              clear H2 d1 d2 hwj
              go_wp2
              clear hr p2 q2 q2b q2bn d2b
              have HLB := Aside0.mk (show last < cs.length ∧ i ≤ last by
                have h1 := HLA.out
                have h2 := (scan_ge end1 2 (cs.drop i) i i (Nat.le_refl _))
                have h3 := scan_lt end1 2 (cs.drop i) i i
                rw [List.length_drop] at h2 h3
                have := C1.out
                omega)
              go_loopg [11] (cs.length + 1) (fun kq v11 w' => ∃ (j2 : Nat) (xs : List Int), v11 = .int .i64 (j2 : Int) ∧ Aside0 (fill lev1 (last + 1 - j2) j2 xs = fill lev1 (last + 1 - i) i ys) ∧ Aside0 (j2 ≤ last + 1) ∧ Aside0 (cs.length < j2 + kq) ∧ Aside0 (Lv w' b8 b5 g (some ad) c5 cs xs) ∧ Aside0 (w.grownBy w' (some g)))
              case atStart => exact ⟨i, ys, (by first | rfl | (simp; done)), ⟨rfl⟩, ⟨by have := HLB.out; omega⟩, ⟨by omega⟩, HL, HG⟩
              case round =>
                obtain ⟨j2, xs, rfl, HA3, HJ3, HK3, HL3, HG3⟩ := hrel
                have H3 := HA3.out
                clear HA3
                by_cases e1 : j2 ≤ last
                · obtain ⟨k3, rfl⟩ : ∃ m, gk = m + 1 := ⟨gk - 1, by have := HK3.out; have := HLB.out; omega⟩
                  rw [show last + 1 - j2 = (last + 1 - (j2 + 1)) + 1 by omega] at H3
                  simp only [fill] at H3
                  have HA3 := Aside0.mk H3
                  have e1b : decide ((j2 : Int) ≤ (last : Int)) = true := decide_eq_true (by omega)
                  have e1bn : decide (j2 ≤ last) = true := decide_eq_true (by omega)
                  have hwj : wrap64 ((j2 : Int) + 1) = ((j2 + 1 : Nat) : Int) := by have := HS.out; have := HLB.out; unfold wrap64; omega
                  have E1 := Aside0.mk e1
                  clear H3 e1
                  go_wp2_with (first | (go_at_call 34; (with_reducible refine (lev1_calls HL3.out j2 (by have := E1.out; have := HLB.out; omega)).mono ?_); rintro e w1 ⟨rfl, hL, hg⟩; have HL4 := Aside0.mk hL; have HG4 := Aside0.mk (grown_trans HG3.out hg); clear hL hg))
                  go_roundg k3
                  case measure => omega
                  case rel => exact ⟨j2 + 1, _, by rw [hwj], HA3, ⟨by have := E1.out; omega⟩, ⟨by have := HK3.out; omega⟩, HL4, HG4⟩
                · have e1b : decide ((j2 : Int) ≤ (last : Int)) = false := decide_eq_false (by omega)
                  have e1bn : decide (j2 ≤ last) = false := decide_eq_false (by omega)
                  rw [show last + 1 - j2 = 0 by omega] at H3
                  simp only [fill] at H3
                  have HX := Aside0.mk H3
                  have hwl : wrap64 ((last : Int) + 1) = ((last + 1 : Nat) : Int) := by have := HS.out; have := HLB.out; unfold wrap64; omega
                  clear H3 e1
                  go_wp2
                  go_roundg k1
                  case measure => omega
                  case rel => exact ⟨last + 1, xs, by rw [hwl], ⟨by have := HA.out; rw [HX.out, HLA.out]; exact this⟩, ⟨by have := HLB.out; omega⟩, ⟨by have := HK.out; have := HLB.out; omega⟩, HL3, HG3⟩
            · rw [if_neg d2] at H2
              have d2b : (rd cs (j : Int) != 2) = true := bne_iff_ne.mpr d2
              clear d1 d2
              by_cases d3 : end1 (rd cs (j : Int)) = true
              · rw [if_pos d3] at H2
                have HA2 := Aside0.mk H2
                have D3 := Aside0.mk d3
                clear H2 d3
                go_wp2_with (first | (go_at_call 33; (with_reducible refine (end1_calls _ _).mono ?_); rintro e w1 ⟨rfl, rfl⟩; rw [D3.out]))
                go_roundg k2
                case measure => omega
                case rel => exact ⟨j, j + 1, rfl, by rw [hwj], HA2, ⟨by omega, D1.out⟩, ⟨by have := HK2.out; omega⟩, rfl⟩
              · rw [if_neg d3] at H2
                have HA2 := Aside0.mk H2
                have D3 := Aside0.mk (Bool.eq_false_iff.mpr d3)
                clear H2 d3
                go_wp2_with (first | (go_at_call 33; (with_reducible refine (end1_calls _ _).mono ?_); rintro e w1 ⟨rfl, rfl⟩; rw [D3.out]))
                go_roundg k2
                case measure => omega
                case rel => exact ⟨last, j + 1, rfl, by rw [hwj], HA2, ⟨by have := HJ.out; omega, D1.out⟩, ⟨by have := HK2.out; omega⟩, rfl⟩
          · rw [List.drop_eq_nil_of_le (by omega)] at H2
            simp only [scan] at H2
            have HLA := Aside0.mk H2
            have q2b : decide ((j : Int) < (cs.length : Int)) = false := decide_eq_false (by omega)
            have q2bn : decide (j < cs.length) = false := decide_eq_false (by omega)
            clear H2 d1
            go_wp2
            clear q2b q2bn
            have HLB := Aside0.mk (show last < cs.length ∧ i ≤ last by
              have h1 := HLA.out
              have h2 := (scan_ge end1 2 (cs.drop i) i i (Nat.le_refl _))
              have h3 := scan_lt end1 2 (cs.drop i) i i
              rw [List.length_drop] at h2 h3
              have := C1.out
              omega)
            go_loopg [11] (cs.length + 1) (fun kq v11 w' => ∃ (j2 : Nat) (xs : List Int), v11 = .int .i64 (j2 : Int) ∧ Aside0 (fill lev1 (last + 1 - j2) j2 xs = fill lev1 (last + 1 - i) i ys) ∧ Aside0 (j2 ≤ last + 1) ∧ Aside0 (cs.length < j2 + kq) ∧ Aside0 (Lv w' b8 b5 g (some ad) c5 cs xs) ∧ Aside0 (w.grownBy w' (some g)))
            case atStart => exact ⟨i, ys, (by first | rfl | (simp; done)), ⟨rfl⟩, ⟨by have := HLB.out; omega⟩, ⟨by omega⟩, HL, HG⟩
            case round =>
              obtain ⟨j2, xs, rfl, HA3, HJ3, HK3, HL3, HG3⟩ := hrel
              have H3 := HA3.out
              clear HA3
              by_cases e1 : j2 ≤ last
              · obtain ⟨k3, rfl⟩ : ∃ m, gk = m + 1 := ⟨gk - 1, by have := HK3.out; have := HLB.out; omega⟩
                rw [show last + 1 - j2 = (last + 1 - (j2 + 1)) + 1 by omega] at H3
                simp only [fill] at H3
                have HA3 := Aside0.mk H3
                have e1b : decide ((j2 : Int) ≤ (last : Int)) = true := decide_eq_true (by omega)
                have e1bn : decide (j2 ≤ last) = true := decide_eq_true (by omega)
                have hwj : wrap64 ((j2 : Int) + 1) = ((j2 + 1 : Nat) : Int) := by have := HS.out; have := HLB.out; unfold wrap64; omega
                have E1 := Aside0.mk e1
                clear H3 e1
                go_wp2_with (first | (go_at_call 34; (with_reducible refine (lev1_calls HL3.out j2 (by have := E1.out; have := HLB.out; omega)).mono ?_); rintro e w1 ⟨rfl, hL, hg⟩; have HL4 := Aside0.mk hL; have HG4 := Aside0.mk (grown_trans HG3.out hg); clear hL hg))
                go_roundg k3
                case measure => omega
                case rel => exact ⟨j2 + 1, _, by rw [hwj], HA3, ⟨by have := E1.out; omega⟩, ⟨by have := HK3.out; omega⟩, HL4, HG4⟩
              · have e1b : decide ((j2 : Int) ≤ (last : Int)) = false := decide_eq_false (by omega)
                have e1bn : decide (j2 ≤ last) = false := decide_eq_false (by omega)
                rw [show last + 1 - j2 = 0 by omega] at H3
                simp only [fill] at H3
                have HX := Aside0.mk H3
                have hwl : wrap64 ((last : Int) + 1) = ((last + 1 : Nat) : Int) := by have := HS.out; have := HLB.out; unfold wrap64; omega
                clear H3 e1
                go_wp2
                go_roundg k1
                case measure => omega
                case rel => exact ⟨last + 1, xs, by rw [hwl], ⟨by have := HA.out; rw [HX.out, HLA.out]; exact this⟩, ⟨by have := HLB.out; omega⟩, ⟨by have := HK.out; have := HLB.out; omega⟩, HL3, HG3⟩
      · rw [if_neg c2] at H
        have HA := Aside0.mk H
        have C2 := Aside0.mk (Bool.eq_false_iff.mpr c2)
        clear H c1 c2
        go_wp2_with (first | (go_at_call 33; (with_reducible refine (end1_calls _ _).mono ?_); rintro e w1 ⟨rfl, rfl⟩; rw [C2.out]))
        go_roundg k1
        case measure => omega
        case rel => exact ⟨i + 1, ys, by rw [hwi], HA, ⟨C1.out⟩, ⟨by have := HK.out; omega⟩, HL, HG⟩
    · have q1b : decide ((i : Int) < (cs.length : Int)) = false := decide_eq_false (by omega)
      have q1bn : decide (i < cs.length) = false := decide_eq_false (by omega)
      have H : ys = FIN := by
        rw [← HA.out]
        cases gk with
        | zero => rfl
        | succ m => simp only [raiseL]; rw [if_neg c1]
      have HF := Aside0.mk H
      clear H c1 HA
      go_wp2
      go_end0
      exact ⟨rfl, HF.out ▸ HL.out, HG.out⟩
set_option maxHeartbeats 8000000 in
set_option maxRecDepth 100000 in
theorem levels_made (k : Nat) (a0 : Int) (s : ByteArray) (r : List Int) (w : World) (hG : Glob w) (h : bidi_Levels.f k a0 s = some r) :
    Calls Tryd.prog 19 #[.int .i64 a0, .string s] w fun e w' => ∃ v0_ : Value, e = .returned v0_ ∧ Made w w' v0_ r := by
  unfold bidi_Levels.f at h
  by_cases h1 : s.size ≤ 1000000
  · rw [if_pos h1] at h
    obtain ⟨t, hu, h⟩ := Option.bind_eq_some_iff.mp h
    have HU := Aside0.mk hu
    have HG := Aside0.mk hG
    have HSS := Aside0.mk h1
    clear hu h1 hG
    cases t with
    | false =>
      obtain rfl : [] = r := by simpa using h
      clear h
      go_enter Tryd.func19, Tryd.ntmps19
      go_wp2_with (first | (go_at_call 16; refine (utf8_ValidString.calls s false _ HG.out HU.out).mono ?_; rintro e w1 ⟨rfl, hb⟩; have HB1 := Aside0.mk hb; clear hb))
      go_ret
      exact ⟨_, rfl, .inl ⟨rfl, rfl⟩, HB1.out⟩
    | true =>
      rw [if_pos rfl] at h
      obtain ⟨CS, hcs, h⟩ := Option.bind_eq_some_iff.mp h
      obtain rfl := Option.some.inj h
      have HCS := Aside0.mk hcs
      clear h hcs
      go_enter Tryd.func19, Tryd.ntmps19
      go_wp2_with (first | (go_at_call 16; refine (utf8_ValidString.calls s true _ HG.out HU.out).mono ?_; rintro e w2 ⟨rfl, hb⟩; have HB2 := Aside0.mk hb; clear hb))
      go_loopg [] (s.size + 1) (fun kq w' => ∃ (pos : Nat) (xs cs rest : List Int) (v : Value), Aside0 (Left s kq pos xs) ∧ Aside0 (classesL k xs = some rest) ∧ Aside0 (cs ++ rest = CS) ∧ Aside0 (cs.length ≤ pos) ∧ Aside0 (w'.heap[w2.heap.size]? = some (.cells #[v] 29 (0, 0))) ∧ Aside0 (w'.heap[w2.heap.size + 1]? = some (.stringIter s pos)) ∧ Aside0 (Kd.R (Kd.int .i64) 3 w' w.heap.size (fun j => j ≠ w2.heap.size ∧ j ≠ w2.heap.size + 1) v cs) ∧ Aside0 (Below w.heap.size w w'))
      case atStart =>
        have hz : (w2.alloc (Obj.cells #[.slice none 0 0] 29)).heap.size = w2.heap.size + 1 := by simp
        have hn := blk_new (w2.alloc (Obj.cells #[.slice none 0 0] 29)) (.stringIter s 0)
        rw [hz] at hn
        exact ⟨0, rns s, [], CS, .slice none 0 0, ⟨left_start s⟩, HCS, ⟨rfl⟩, ⟨Nat.le_refl _⟩, ⟨blk_alloc (blk_new w2 _) _⟩, ⟨hn⟩, ⟨Kd.R_nil _ _ _ _ _⟩, ⟨below_alloc (below_alloc HB2.out _) _⟩⟩
      case round =>
        obtain ⟨pos, xs, cs, rest, v, HL, HA, HC, HN, H5, HI, HR, HB⟩ := hrel
        have HW2 := Aside0.mk HB2.out.size
        by_cases c1 : pos < s.size
        · obtain ⟨k1, ys, rfl, rfl, HL1⟩ := left_next HL.out c1
          have H := HA.out
          unfold classesL at H
          obtain ⟨c, hc, H⟩ := Option.bind_eq_some_iff.mp H
          obtain ⟨rest2, hrest, H⟩ := Option.bind_eq_some_iff.mp H
          obtain rfl := Option.some.inj H
          have HA2 := Aside0.mk hrest
          have HX := Aside0.mk hc
          have HC2 := Aside0.mk (show (cs ++ [c]) ++ rest2 = CS by rw [← HC.out]; simp)
          have hnx : ∀ ty, (Instr.next (.pointer (some ⟨w2.heap.size + 1, 0, none⟩)) true ty).run Tryd.prog wr = _ := fun ty => Lib.run_next_any_at wr (w2.heap.size + 1) s pos ty HI.out c1
          have HI2 := Aside0.mk (Lib.iterAt_heap wr (w2.heap.size + 1) s pos (pos + (Utf8.decode s pos).2) HI.out)
          have H52 := Aside0.mk ((Lib.iterAt_other wr (w2.heap.size + 1) w2.heap.size s (pos + (Utf8.decode s pos).2) (by omega)).trans H5.out)
          have HB3 := Aside0.mk (Lib.below_iterAt HB.out (k := w2.heap.size + 1) (by have := HW2.out; omega) s (pos + (Utf8.decode s pos).2))
          have HR2 := Aside0.mk (Kd.R_grown HR.out (grown_iterAt wr (w2.heap.size + 1) s (pos + (Utf8.decode s pos).2)) (fun j hj e => hj.2 (by injection e)))
          have HN2 := Aside0.mk (show cs.length + 1 ≤ pos + (Utf8.decode s pos).2 ∧ cs.length < s.size by have := HN.out; have := Lib.decode_width_pos s pos c1; omega)
          have HLL := Aside0.mk HL1
          clear HL1 HB HL HR HN HI H5 H hc hrest HA HC
          generalize hd : Utf8.decode s pos = d at *
          obtain ⟨d1, d2⟩ := d
          simp only at HLL hnx HI2 HB3 HR2 HN2 H52 HX
          clear hd c1
          generalize wr.iterAt (w2.heap.size + 1) s (pos + d2) = wi at *
          have HSZ := Aside0.mk (show w2.heap.size + 1 < wi.heap.size from (Array.getElem?_eq_some_iff.1 HI2.out).1)
          have hc5 : wi.cell? ⟨w2.heap.size, 0, none⟩ = some v := (blk_cell H52.out 0).trans rfl
          obtain ⟨A5, c5, hv5⟩ := Kd.R_slice HR2.out
          subst hv5
          have hc5a : ∀ (m : Nat) (o : Obj), ((wi.drewN m).alloc o).cell? ⟨w2.heap.size, 0, none⟩ = some (.slice A5 cs.length c5) := fun m o => pw_cell_below (w := wi.drewN m) (below_alloc (Below.refl _ _) o) hc5
          go_wp2
          go_region_law (first | (refine Kd.R_append_step (Kd.int .i64) (w0 := w) w.heap.size (by rfl) (.tmp 18) (.tmp 21) 29 3 (.int .i64 0) 8 rfl Tryd.underlying29 wInfo3 rfl (by decide) (by omega) (.slice A5 cs.length c5) cs c [.int .i64 c] (fun j => j ≠ w2.heap.size ∧ j ≠ w2.heap.size + 1) (fun _ => False) (by rfl) (by first | (go_simp; done) | (go_simp; rfl)) rfl (fun _ hk => hk.elim) (fun j hj => by have hj2 : wi.heap.size ≤ j := hj; have := HSZ.out; omega) (by (with_reducible repeat (first | apply Kd.R_alloc | apply Kd.R_drewN | apply Kd.R_drew)); exact HR2.out) (by repeat (first | (with_reducible first | exact HB3.out | apply below_alloc | apply pw_below_drewN | apply below_drew1) | exact HB3.out)) (HB3.out.size) (by have := HN2.out; have := HSS.out; omega) ?_; intro v1 w1 ho hb hg hat; obtain ⟨A6, c6, hv6⟩ := Kd.R_slice ho; subst hv6; have n0_ := Aside0.mk ho; have n1_ := Aside0.mk hb; have hg2 : wi.grownBy w1 (Value.slice A5 cs.length c5).ownBlock := ⟨hg.os, hg.tape, hg.output, hg.size, hg.block⟩; have n2_ := Aside0.mk (blk_grown H52.out hg2 (fun e => (HR2.out.1 _ e.symm).1 rfl)); have n3_ := Aside0.mk (blk_grown HI2.out hg2 (fun e => (HR2.out.1 _ e.symm).2 rfl)); have n4_ := (blk_cell n2_.out 0).trans rfl; have n5_ := blk_frozen n2_.out 0; clear ho hb hg hg2 hat hc5 hc5a) | (go_simp; go_at_call 13; refine (bidi_Class.calls k (d1 : Int) c _ HX.out).mono ?_; rintro e w1 ⟨rfl, ⟨nd, rfl⟩⟩))
          all_goals
            have n6_ := n0_.out
            rw [show (cs ++ [c]).length = cs.length + 1 by simp] at n6_
            have N6 := Aside0.mk n6_
            clear n6_ n0_
            go_wp2
            go_roundg k1
            case measure => omega
            case rel => exact ⟨_, ys, cs ++ [c], rest2, .slice A6 (cs.length + 1) c6, HLL, HA2, HC2, ⟨by have := HN2.out; simp; omega⟩, ⟨blk_put n2_.out 0 _ rfl⟩, ⟨(Below.heap_setCell w1 ⟨w2.heap.size, 0, none⟩ _ _ (by simp)).trans n3_.out⟩, ⟨Kd.R_far N6.out (p := ⟨w2.heap.size, 0, none⟩) (fun j hj => hj.1) _⟩, ⟨below_set n1_.out HW2.out⟩⟩
        · obtain rfl := left_end HL.out c1
          have hnx : ∀ ty, (Instr.next (.pointer (some ⟨w2.heap.size + 1, 0, none⟩)) true ty).run Tryd.prog wr = _ := fun ty => Lib.run_next_end_at wr (w2.heap.size + 1) s pos ty HI.out c1
          obtain rfl := Option.some.inj HA.out
          obtain rfl : cs = CS := by simpa using HC.out
          have HSM := Aside0.mk (show cs.length ≤ 1000000 by have := classesL_len k _ _ HCS.out; have := rns_len s; have := HSS.out; omega)
          obtain ⟨A5, c5, rfl, hl5, hC5⟩ := Kd.R_reads HR.out
          have HA5 := Aside0.mk (show ∀ a, A5 = some a → a.block < wr.heap.size from fun a e => by subst e; exact Kd.R_lt HR.out _ rfl)
          have HLV := Aside0.mk (lv_start H5.out hC5 hl5 HSM.out HA5.out)
          have hc5 : wr.cell? ⟨w2.heap.size, 0, none⟩ = some (.slice A5 cs.length c5) := (blk_cell H5.out 0).trans rfl
          have hmk := fun W => run_make29 W cs.length HSM.out
          have HB9 := Aside0.mk (show Below w.heap.size w ((wr.alloc (.cells ((List.replicate cs.length (0 : Int)).map (Value.int .i64)).toArray 3)).alloc (.cells #[.slice (some ⟨wr.heap.size, 0, none⟩) cs.length cs.length] 29)) from below_alloc (below_alloc HB.out _) _)
          have HGE := Aside0.mk (show w.heap.size ≤ wr.heap.size from HB.out.size)
          clear hl5 hC5 c1 HB HR HI
          have h8 := HLV.out.out
          have h5b := HLV.out.cls
          rw [List.length_replicate] at h8
          generalize hZ : ((List.replicate cs.length (0 : Int)).map (Value.int .i64)).toArray = ZA at HLV HB9 hmk h8 h5b
          clear hZ
          by_cases b0 : a0 = 0
          · subst b0
            go_wp2_with (first | (go_at_call 30; refine (raise0_calls HLV.out).mono ?_; rintro e w3 ⟨rfl, hL, hg⟩; have HL3 := Aside0.mk hL; have HB10 := Aside0.mk (pw_below_grown HB9.out (some wr.heap.size) HB9.out.size hg (fun k hk => by injection hk with hk; have := HGE.out; omega)); have h83 := hL.out; rw [raiseL_len, List.length_replicate] at h83; clear hL hg h8 h5b hmk hc5))
            go_ret
            refine ⟨_, rfl, .inr ⟨wr.heap.size, ?_, HGE.out, ?_, ?_⟩, HB10.out⟩
            · rw [levelsL_len]; rfl
            · have := HL3.out.row
              unfold levelsL
              rw [if_pos rfl]
              exact this
            · rw [levelsL_len]; exact HSM.out
          · have b0b : (a0 == 0) = false := beq_eq_false_iff_ne.mpr b0
            have B0 := Aside0.mk b0
            have hsz : (cs.length : Int) ≤ 1000000 := by have := HSM.out; omega
            have HZ := Aside0.mk hsz
            clear b0 hsz
            go_wp2
            rename World => WO
            go_loopg [9, 34] (cs.length + 1) (fun kq v9 v34 w' => ∃ (j : Nat) (ys : List Int), v34 = .int .i64 (j : Int) ∧ Aside0 (j ≤ cs.length) ∧ Aside0 (cs.length < j + kq) ∧ Aside0 (∀ i, i < j → ys.getD i 0 = 1) ∧ Aside0 (Lv w' (WO.heap.size + 1) w2.heap.size WO.heap.size A5 c5 cs ys) ∧ Aside0 (Below w.heap.size w w'))
            case atStart => exact ⟨0, _, (by first | rfl | (simp; done)), ⟨Nat.zero_le _⟩, ⟨by omega⟩, ⟨fun i hi => absurd hi (Nat.not_lt_zero _)⟩, HLV, HB9⟩
            case round =>
              clear HLV HB9 h8 h5b hmk hc5
              obtain ⟨j, ys, rfl, HJ, HK, HY, HL3, HB3⟩ := hrel
              have h83 := HL3.out.out
              rw [HL3.out.len] at h83
              have h53 := HL3.out.cls
              by_cases d1 : j < cs.length
              · obtain ⟨k2, rfl⟩ : ∃ m, gk = m + 1 := ⟨gk - 1, by have := HK.out; omega⟩
                have hx := HL3.out.cell d1
                have hf := HL3.out.free j
                have p2 : (0 ≤ (j : Int)) = True := eq_true (by omega)
                have q2 : ((j : Int) < (cs.length : Int)) = True := eq_true (by omega)
                have q2b : decide ((j : Int) < (cs.length : Int)) = true := decide_eq_true (by omega)
                have q2bn : decide (j < cs.length) = true := decide_eq_true (by omega)
                have D1 := Aside0.mk d1
                have hwj : wrap64 ((j : Int) + 1) = ((j + 1 : Nat) : Int) := by have := HZ.out; unfold wrap64; omega
                clear d1
                go_wp2
                go_roundg k2
                case measure => omega
                case rel =>
                  refine ⟨j + 1, ys.set j 1, by rw [hwj], ⟨D1.out⟩, ⟨by have := HK.out; omega⟩, ⟨fun i hi => ?_⟩, ⟨HL3.out.set j 1⟩, ⟨below_set HB3.out HGE.out⟩⟩
                  have hl := HL3.out.len
                  by_cases e : i = j
                  · subst e
                    have := D1.out
                    simp [List.getD, List.getElem?_set, hl, this]
                  · have := HY.out i (by omega)
                    simpa [List.getD, List.getElem?_set, Ne.symm e] using this
              · have q2b : decide ((j : Int) < (cs.length : Int)) = false := decide_eq_false (by omega)
                have q2bn : decide (j < cs.length) = false := decide_eq_false (by omega)
                have hys : ys = List.replicate cs.length 1 := by
                  have hl := HL3.out.len
                  apply List.ext_getElem
                  · simp [hl]
                  · intro i h1 h2
                    have := HY.out i (by omega)
                    simpa [List.getD, List.getElem?_eq_getElem h1] using this
                subst hys
                have HB4 := Aside0.mk HB3.out
                clear d1
                go_wp2_with (first | (go_at_call 30; refine (raise1_calls HL3.out).mono ?_; rintro e w3 ⟨rfl, hL, hg⟩; have HL4 := Aside0.mk hL; have HB10 := Aside0.mk (pw_below_grown HB3.out (some WO.heap.size) HB3.out.size hg (fun k hk => by injection hk with hk; have := HGE.out; omega)); have h84 := hL.out; rw [raiseL_len, List.length_replicate] at h84; clear hL hg h83 h53))
                go_ret
                refine ⟨_, rfl, .inr ⟨WO.heap.size, ?_, HGE.out, ?_, ?_⟩, HB10.out⟩
                · rw [levelsL_len]; rfl
                · have := HL4.out.row
                  unfold levelsL
                  rw [if_neg B0.out]
                  exact this
                · rw [levelsL_len]; exact HSM.out
  · rw [if_neg h1] at h
    exact absurd h (by simp)
theorem bidi_Levels.calls (k : Nat) (a0 : Int) (a1 : ByteArray) (r : List Int) (w : World) (hG : Glob w) (h : bidi_Levels.f k a0 a1 = some r) :
    Calls Tryd.prog 19 #[.int .i64 a0, .string a1] w fun e w' => ∃ v0_ : Value, e = .returned (v0_) ∧ Kd.R (Kd.int .i64) 3 w' w.heap.size (fun _ => True) v0_ r ∧ Below w.heap.size w w' := by
  refine (levels_made k a0 a1 r w hG h).mono ?_
  rintro e w' ⟨v, rfl, hv, hb⟩
  refine ⟨v, rfl, ?_, hb⟩
  rcases hv with ⟨rfl, rfl⟩ | ⟨g, rfl, hge, hrow, hs⟩
  · exact Kd.R_nil _ _ _ _ _
  · exact R_of_blk hge hrow hs

end Go.Proofs.YtfecolaljnijbaaDoor.C
