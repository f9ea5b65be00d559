-- Laid by a program of this session (wip/gprint.py) over the kit's print of the translation; Lean checks it.
import Derived.Test.YtgbickkmfjngbaaKx0
import Derived.Test.YtgbickkmfjngbaaKx7
import Derived.Test.YtgbickkmfjngbaaKx8
import Derived.Test.YtgbickkmfjngbaaKx11
namespace Go.Proofs.Ytgbickkmfjngbaa.K
open Go.RowKit Go.Proofs.YtgbickkmfjngbaaW.PrintWords Go.Proofs.YtgbickkmfjngbaaW.PrintLast Go.Proofs.YtgbickkmfjngbaaG.Words
set_option linter.unusedVariables false
set_option linter.unusedSimpArgs false

/-! ### tammyref08_Of: function 15 -/
mutual
def tammyref08_Of.l0 : Nat → List (S52) → List (S38) → Int → List Int → List Int → Int → Option (List Int)
  | 0, _, _, _, _, _, _ => none
  | k + 1, x0, x1, x2, x7, x8, x9 => if x9 ≥ 0 then (if x9 = (wrap64 ((x1.length : Int) - 1)) then (if 0 ≤ x9 then (if x9 < (x8.length : Int) then ((some (x8.set (x9 : Int).toNat 66 : List Int)).bind fun y260 => (if x2 = 76 then (tammyref08_Of.j1 k x0 x1 x2 x7 (y260.set (x9 : Int).toNat x2) x9) else (if x2 = 82 then (tammyref08_Of.j1 k x0 x1 x2 x7 (y260.set (x9 : Int).toNat x2) x9) else (tammyref08_Of.j1 k x0 x1 x2 x7 y260 x9)))) else (none)) else (none)) else (tammyref08_Of.j1 k x0 x1 x2 x7 x8 x9)) else (some x8)
def tammyref08_Of.j1 : Nat → List (S52) → List (S38) → Int → List Int → List Int → Int → Option (List Int)
  | 0, _, _, _, _, _, _ => none
  | k + 1, x0, x1, x2, x7, x8, x9 => (tammyref07_Kids.f k x1 x7 x9).bind fun t263 => (tammyref08_Of.l1 k x0 x1 x2 x7 x8 x9 t263 0)
def tammyref08_Of.l1 : Nat → List (S52) → List (S38) → Int → List Int → List Int → Int → List Int → Int → Option (List Int)
  | 0, _, _, _, _, _, _, _, _ => none
  | k + 1, x0, x1, x2, x7, x8, x9, x10, x11 => if x11 < (x10.length : Int) then (if 0 ≤ x11 then (if 0 ≤ x9 then (if x9 < (x8.length : Int) then (if x9 < (x1.length : Int) then ((tammyref08_vary.f k x0 ((rd_T38 x1 x9).f0) ((rd_T38 x1 x9).f1) ((rd_T38 x1 x9).f2) x11).bind fun t269 => ((tammyref08_Turn.f k (rd x8 x9) t269).bind fun t270 => (if 0 ≤ (rd x10 x11) then (if (rd x10 x11) < (x8.length : Int) then (tammyref08_Of.l1 k x0 x1 x2 x7 (x8.set ((rd x10 x11) : Int).toNat t270) x9 x10 (wrap64 (x11 + 1))) else (none)) else (none)))) else (none)) else (none)) else (none)) else (none)) else (tammyref08_Of.l0 k x0 x1 x2 x7 x8 (wrap64 (x9 - 1)))
end
def tammyref08_Of.f (k : Nat) (l0 : List (S52)) (l1 : List (S38)) (a2 : Int) : Option (List Int) := (tammyref07_Starts.f k l1).bind fun t254 => (if 0 ≤ (l1.length : Int) then (if ((l1.length : Int) : Int).toNat ≤ 281474976710656 then (tammyref08_Of.l0 k l0 l1 a2 t254 (List.replicate ((l1.length : Int) : Int).toNat 0) (wrap64 ((l1.length : Int) - 1))) else (none)) else (none))
theorem tammyref08_Of.mono_l : ∀ k, (∀ y0 y1 y2 y3 y4 y5, LeO (tammyref08_Of.l0 k y0 y1 y2 y3 y4 y5) (tammyref08_Of.l0 (k + 1) y0 y1 y2 y3 y4 y5)) ∧ (∀ y0 y1 y2 y3 y4 y5, LeO (tammyref08_Of.j1 k y0 y1 y2 y3 y4 y5) (tammyref08_Of.j1 (k + 1) y0 y1 y2 y3 y4 y5)) ∧ (∀ y0 y1 y2 y3 y4 y5 y6 y7, LeO (tammyref08_Of.l1 k y0 y1 y2 y3 y4 y5 y6 y7) (tammyref08_Of.l1 (k + 1) y0 y1 y2 y3 y4 y5 y6 y7))
  | 0 => ⟨fun _ _ _ _ _ _ r h => by simp [tammyref08_Of.l0] at h, fun _ _ _ _ _ _ r h => by simp [tammyref08_Of.j1] at h, fun _ _ _ _ _ _ _ _ r h => by simp [tammyref08_Of.l1] at h⟩
  | k + 1 => by
    obtain ⟨ih0, ih1, ih2⟩ := tammyref08_Of.mono_l k
    refine ⟨?_, ?_, ?_⟩
    · intro y0 y1 y2 y3 y4 y5
      unfold tammyref08_Of.l0
      repeat' first
      | (with_reducible exact ih0 _ _ _ _ _ _)
      | (with_reducible exact ih1 _ _ _ _ _ _)
      | (with_reducible exact ih2 _ _ _ _ _ _ _ _)
      | (with_reducible exact tammyref07_Kids.mono _ _ _ _)
      | (with_reducible exact tammyref07_Starts.mono _ _)
      | (with_reducible exact tammyref08_Turn.mono _ _ _)
      | (with_reducible exact tammyref08_vary.mono _ _ _ _ _ _)
      | (with_reducible exact LeO.refl _)
      | (with_reducible exact LeO.none _)
      | (with_reducible refine LeO.ite ?_ ?_)
      | (with_reducible refine LeO.bind ?_ (fun _ => ?_))
      | exact ih0 _ _ _ _ _ _
      | exact ih1 _ _ _ _ _ _
      | exact ih2 _ _ _ _ _ _ _ _
      | exact tammyref07_Kids.mono _ _ _ _
      | exact tammyref07_Starts.mono _ _
      | exact tammyref08_Turn.mono _ _ _
      | exact tammyref08_vary.mono _ _ _ _ _ _
      | exact LeO.none _
      | refine LeO.ite ?_ ?_
      | refine LeO.bind ?_ (fun _ => ?_)
    · intro y0 y1 y2 y3 y4 y5
      unfold tammyref08_Of.j1
      repeat' first
      | (with_reducible exact ih0 _ _ _ _ _ _)
      | (with_reducible exact ih1 _ _ _ _ _ _)
      | (with_reducible exact ih2 _ _ _ _ _ _ _ _)
      | (with_reducible exact tammyref07_Kids.mono _ _ _ _)
      | (with_reducible exact tammyref07_Starts.mono _ _)
      | (with_reducible exact tammyref08_Turn.mono _ _ _)
      | (with_reducible exact tammyref08_vary.mono _ _ _ _ _ _)
      | (with_reducible exact LeO.refl _)
      | (with_reducible exact LeO.none _)
      | (with_reducible refine LeO.ite ?_ ?_)
      | (with_reducible refine LeO.bind ?_ (fun _ => ?_))
      | exact ih0 _ _ _ _ _ _
      | exact ih1 _ _ _ _ _ _
      | exact ih2 _ _ _ _ _ _ _ _
      | exact tammyref07_Kids.mono _ _ _ _
      | exact tammyref07_Starts.mono _ _
      | exact tammyref08_Turn.mono _ _ _
      | exact tammyref08_vary.mono _ _ _ _ _ _
      | exact LeO.none _
      | refine LeO.ite ?_ ?_
      | refine LeO.bind ?_ (fun _ => ?_)
    · intro y0 y1 y2 y3 y4 y5 y6 y7
      unfold tammyref08_Of.l1
      repeat' first
      | (with_reducible exact ih0 _ _ _ _ _ _)
      | (with_reducible exact ih1 _ _ _ _ _ _)
      | (with_reducible exact ih2 _ _ _ _ _ _ _ _)
      | (with_reducible exact tammyref07_Kids.mono _ _ _ _)
      | (with_reducible exact tammyref07_Starts.mono _ _)
      | (with_reducible exact tammyref08_Turn.mono _ _ _)
      | (with_reducible exact tammyref08_vary.mono _ _ _ _ _ _)
      | (with_reducible exact LeO.refl _)
      | (with_reducible exact LeO.none _)
      | (with_reducible refine LeO.ite ?_ ?_)
      | (with_reducible refine LeO.bind ?_ (fun _ => ?_))
      | exact ih0 _ _ _ _ _ _
      | exact ih1 _ _ _ _ _ _
      | exact ih2 _ _ _ _ _ _ _ _
      | exact tammyref07_Kids.mono _ _ _ _
      | exact tammyref07_Starts.mono _ _
      | exact tammyref08_Turn.mono _ _ _
      | exact tammyref08_vary.mono _ _ _ _ _ _
      | exact LeO.none _
      | refine LeO.ite ?_ ?_
      | refine LeO.bind ?_ (fun _ => ?_)
theorem tammyref08_Of.mono : ∀ a0 a1 a2 k, LeO (tammyref08_Of.f k a0 a1 a2) (tammyref08_Of.f (k + 1) a0 a1 a2) := by
  intro a0 a1 a2 k
  obtain ⟨ih0, ih1, ih2⟩ := tammyref08_Of.mono_l k
  unfold tammyref08_Of.f
  repeat' first
      | (with_reducible exact ih0 _ _ _ _ _ _)
      | (with_reducible exact ih1 _ _ _ _ _ _)
      | (with_reducible exact ih2 _ _ _ _ _ _ _ _)
      | (with_reducible exact tammyref07_Kids.mono _ _ _ _)
      | (with_reducible exact tammyref07_Starts.mono _ _)
      | (with_reducible exact tammyref08_Turn.mono _ _ _)
      | (with_reducible exact tammyref08_vary.mono _ _ _ _ _ _)
      | (with_reducible exact LeO.refl _)
      | (with_reducible exact LeO.none _)
      | (with_reducible refine LeO.ite ?_ ?_)
      | (with_reducible refine LeO.bind ?_ (fun _ => ?_))
      | exact ih0 _ _ _ _ _ _
      | exact ih1 _ _ _ _ _ _
      | exact ih2 _ _ _ _ _ _ _ _
      | exact tammyref07_Kids.mono _ _ _ _
      | exact tammyref07_Starts.mono _ _
      | exact tammyref08_Turn.mono _ _ _
      | exact tammyref08_vary.mono _ _ _ _ _ _
      | exact LeO.none _
      | refine LeO.ite ?_ ?_
      | refine LeO.bind ?_ (fun _ => ?_)
def tammyref08_Of.T14 : Bool × List (List Nat × List Nat) := (true, [([], []), ([], []), ([], []), ([1, 2], [1, 2]), ([3], [3]), ([], []), ([], []), ([5, 6], [5, 6]), ([7], [7]), ([], []), ([], []), ([], []), ([10, 11], [10, 11]), ([12], [12]), ([], []), ([9, 13, 14], [9, 13, 14]), ([8, 15, 15], [8, 15]), ([0, 4, 0, 1, 2, 3, 4, 5, 6, 7, 8, 9, 10, 11, 12, 13, 14, 15, 16], [0, 4]), ([17, 16, 16, 0, 1, 2, 3, 4, 5, 6, 7, 8, 9, 10, 11, 12, 13, 14, 15, 16], [16, 17])])
def tammyref08_Of.B14 : List Nat := [0, 0, 0, 6, 14, 0, 0, 96, 224, 0, 0, 0, 3072, 7168, 0, 32256, 65504, 131071, 262143]
theorem tammyref08_Of.tab14 : rtab .any (opsOf Try.f15 14) = tammyref08_Of.T14 := by kernel_rfl
theorem tammyref08_Of.bits14 : waitsOk tammyref08_Of.T14.2 tammyref08_Of.B14 = true := by kernel_rfl
set_option maxHeartbeats 8000000 in
set_option maxRecDepth 100000 in
theorem tammyref08_Of.calls (k : Nat) (A0 : Option Addr) (c0 : Nat) (l0 : List (S52)) (A1 : Option Addr) (c1 : Nat) (l1 : List (S38)) (a2 : Int) (r : List Int) (w : World) (hr0 : Kd.C k52 w A0 l0.length l0) (hc0 : l0.length ≤ c0) (hr1 : Kd.C k38 w A1 l1.length l1) (hc1 : l1.length ≤ c1) (h : tammyref08_Of.f k l0 l1 a2 = some r) :
    Calls Try.prog 15 #[.slice A0 l0.length c0, .slice A1 l1.length c1, .int .u8 a2] w fun e w' => ∃ v0_ : Value, e = .returned (v0_) ∧ Kd.R (Kd.int .u8) 5 w' w.heap.size (fun _ => True) v0_ r ∧ Below w.heap.size w w' := by
  have hu38 := Try.underlying38
  have HR0 := Aside0.mk hr0
  have HC0 := Aside0.mk hc0
  clear hr0 hc0
  have HR1 := Aside0.mk hr1
  have HC1 := Aside0.mk hc1
  clear hr1 hc1
  have HB := Aside0.mk (Below.refl w.heap.size w)
  have H : ((tammyref07_Starts.f k l1).bind fun t254 => (if 0 ≤ (l1.length : Int) then (if ((l1.length : Int) : Int).toNat ≤ 281474976710656 then (tammyref08_Of.l0 k l0 l1 a2 t254 (List.replicate ((l1.length : Int) : Int).toNat 0) (wrap64 ((l1.length : Int) - 1))) else (none)) else (none))) = some r := h
  clear h
  replace H := Option.bind_eq_some_iff.mp H
  obtain ⟨t254, A40, H⟩ := H
  replace H : (if 0 ≤ (l1.length : Int) then (if ((l1.length : Int) : Int).toNat ≤ 281474976710656 then (tammyref08_Of.l0 k l0 l1 a2 t254 (List.replicate ((l1.length : Int) : Int).toNat 0) (wrap64 ((l1.length : Int) - 1))) else (none)) else (none)) = some r := H
  have A4 := Aside0.mk A40
  clear A40
  by_cases c5 : 0 ≤ (l1.length : Int)
  · rw [if_pos c5] at H
    have c5b0 := eq_true c5
    have c5b1 : decide (0 ≤ (l1.length : Int)) = true := decide_eq_true c5
    clear c5
    by_cases c6 : ((l1.length : Int) : Int).toNat ≤ 281474976710656
    · rw [if_pos c6] at H
      have c6b0 := eq_true c6
      have c6b1 : decide (((l1.length : Int) : Int).toNat ≤ 281474976710656) = true := decide_eq_true c6
      clear c6
      obtain ⟨y257, hy257⟩ : ∃ y_ : List Int, y_ = (List.replicate ((l1.length : Int) : Int).toNat 0) := ⟨_, rfl⟩
      replace H : (tammyref08_Of.l0 k l0 l1 a2 t254 y257 (wrap64 ((l1.length : Int) - 1))) = some r := by first | (rw [hy257]; with_reducible exact H) | (have H2_ := (Option.bind_some _ _).symm.trans H; rw [hy257]; with_reducible exact H2_) | (have H2_ := (Option.bind_some _ _).symm.trans H; with_reducible exact H2_) | with_reducible exact H | (rw [hy257]; exact H) | exact H
      have Ny257 := Aside0.mk hy257
      clear hy257
      have H' := Aside0.mk H
      clear H
      go_enter Try.func15, Try.ntmps15
      go_wp2_with (first | ((with_reducible refine gate_callee (f := 19) rfl ?_); refine goesL_ (some 13) rfl rfl Try.func19 (by kernel_rfl) rfl #[.slice A1 l1.length c1] rfl (by (try simp only [List.map_toArray, List.map_cons, List.map_nil]); first | done | rfl | (simp only [List.length_drop, List.length_take]; rfl)) ?_; (with_reducible refine (tammyref07_Starts.calls k _ _ l1 t254 _ ?side1 ?side2 A4.out).mono ?_); (case side1 => repeat (first | exact HR1.out | (with_reducible refine Kd.C_alloc ?_ _) | (with_reducible refine Kd.C_drewN ?_ _) | (with_reducible refine Kd.C_drew ?_))); (case side2 => exact HC1.out); rintro e w7 ⟨v255, rfl, ho0, hb⟩; refine ⟨_, rfl, ?_⟩; have n0_ := Aside0.mk (Kd.R_lower ho0 (below_size (by repeat (first | (with_reducible first | exact HB.out | apply below_alloc | apply pw_below_drewN | apply below_drew1) | exact HB.out)))); have n1_ := Aside0.mk (below_step (by repeat (first | (with_reducible first | exact HB.out | apply below_alloc | apply pw_below_drewN | apply below_drew1) | exact HB.out)) hb); clear HB; have HO256 := n0_; have HB := n1_; clear n0_ n1_; (try clear hb); (try clear hb2); (try clear hk); (try clear hi); (try clear ho0)) | ((with_reducible refine gate_dst (N := 16) rfl ?_); refine Kd.R_make (Kd.int .u8) _ 5 rfl (N := 16) rfl 31 _ _ rfl (l1.length : Int) rfl rfl Try.underlying31 (.int .u8 0) 1 info5 rfl (by decide) (by omega) 0 (ok := fun _ => True) (okp := fun _ => True) rfl (fun _ hk => hk) trivial (of_decide_eq_true (by first | (with_reducible assumption) | assumption)) (Nat.le_trans (Nat.mul_le_mul_right _ (of_decide_eq_true (by first | (with_reducible assumption) | assumption) : (l1.length : Int).toNat ≤ 281474976710656)) (by omega)) (Below.refl _ _) (Nat.le_refl _) ?_; intro v258 w8 ho9 hb hg_ hnew_; clear hg_ hnew_; (first | rw [← Ny257.out] at ho9 | (simp only [Int.reduceToNat] at ho9; rw [← Ny257.out] at ho9)); have n0_ := Aside0.mk (Kd.R_below (by (with_reducible repeat (first | apply Kd.R_alloc | apply Kd.R_drewN | apply Kd.R_drew)); exact HO256.out) hb); have n1_ := Aside0.mk (Kd.R_lower ho9 (below_size (by repeat (first | (with_reducible first | exact HB.out | apply below_alloc | apply pw_below_drewN | apply below_drew1) | exact HB.out)))); have n2_ := Aside0.mk (below_step (by repeat (first | (with_reducible first | exact HB.out | apply below_alloc | apply pw_below_drewN | apply below_drew1) | exact HB.out)) hb); clear HO256; clear HB; have HO256 := n0_; have HO259 := n1_; have HB := n2_; clear n0_ n1_ n2_; clear hb ho9))
      go_loopg [9] k (fun kq v9 w' => ∃ (x8_1 : List Int) (x9_1 : Int), v9 = .int .i64 x9_1 ∧ Aside0 (tammyref08_Of.l0 kq l0 l1 a2 t254 x8_1 x9_1 = some r) ∧ Aside0 (kq ≤ k) ∧ Aside0 (Kd.R (Kd.int .i64) 3 w' w.heap.size (fun _ => True) v255 t254) ∧ Aside0 (Kd.R (Kd.int .u8) 5 w' w.heap.size (fun _ => True) v258 x8_1) ∧ Aside0 (Below w.heap.size w w'))
      case atStart => exact ⟨(y257), (wrap64 ((l1.length : Int) - 1)), (by first | rfl | (simp; done) | (simp [*]; done)), H', ⟨Nat.le_refl _⟩, ⟨by (with_reducible repeat (first | apply Kd.R_alloc | apply Kd.R_drewN | apply Kd.R_drew)); exact HO256.out⟩, ⟨by (with_reducible repeat (first | apply Kd.R_alloc | apply Kd.R_drewN | apply Kd.R_drew)); exact HO259.out⟩, ⟨by repeat (first | (with_reducible first | exact HB.out | apply below_alloc | apply pw_below_drewN | apply below_drew1) | exact HB.out)⟩⟩
      case round =>
        clear H'
        try clear c1
        try clear p2
        try clear c5
        try clear c5b0
        try clear c5b1
        try clear c6
        try clear c6b0
        try clear c6b1
        try clear p6
        obtain ⟨x8_1, x9_1, rfl, HA, HK1, HO_7, HO_8, HB⟩ := hrel
        cases gk with
        | zero => exact absurd HA.out (by simp [tammyref08_Of.l0])
        | succ k1 =>
          have H := HA.out
          clear HA
          simp only [tammyref08_Of.l0] at H
          by_cases c10 : x9_1 ≥ 0
          · rw [if_pos c10] at H
            have c10b0 : decide (0 ≤ x9_1) = true := decide_eq_true c10
            clear c10
            have HC11 := Aside0.mk H
            clear H
            go_upto_if 28 with (fail)
            go_cut [] (fun wc => ∃ (kq : Nat) (x8_10 : List Int), Aside0 (tammyref08_Of.j1 kq l0 l1 a2 t254 x8_10 x9_1 = some r) ∧ Aside0 (kq ≤ k1) ∧ Aside0 (Kd.R (Kd.int .i64) 3 wc w.heap.size (fun _ => True) v255 t254) ∧ Aside0 (Kd.R (Kd.int .u8) 5 wc w.heap.size (fun _ => True) v258 x8_10) ∧ Aside0 (Below w.heap.size w wc))
            case first =>
              have H := HC11.out
              clear HC11
              by_cases c12 : x9_1 = (wrap64 ((l1.length : Int) - 1))
              · rw [if_pos c12] at H
                have c12b0 : (x9_1 == (wrap64 ((l1.length : Int) - 1))) = true := beq_iff_eq.mpr c12
                have c12b1 : (x9_1 != (wrap64 ((l1.length : Int) - 1))) = false := bne_eq_false_iff_eq.mpr c12
                clear c12
                (first | rw [c12b0] | (simp only [i64_w, i32_w]; rw [c12b0]) | skip)
                by_cases c13 : 0 ≤ x9_1
                · rw [if_pos c13] at H
                  have c13b0 : decide (0 ≤ x9_1) = true := decide_eq_true c13
                  clear c13
                  by_cases c14 : x9_1 < (x8_1.length : Int)
                  · rw [if_pos c14] at H
                    have c14b0 : decide (x9_1 < (x8_1.length : Int)) = true := decide_eq_true c14
                    clear c14
                    obtain ⟨y260, hy260⟩ : ∃ y_ : List Int, y_ = (x8_1.set (x9_1 : Int).toNat 66) := ⟨_, rfl⟩
                    replace H : (if a2 = 76 then (tammyref08_Of.j1 k1 l0 l1 a2 t254 (y260.set (x9_1 : Int).toNat a2) x9_1) else (if a2 = 82 then (tammyref08_Of.j1 k1 l0 l1 a2 t254 (y260.set (x9_1 : Int).toNat a2) x9_1) else (tammyref08_Of.j1 k1 l0 l1 a2 t254 y260 x9_1))) = some r := by first | (rw [hy260]; with_reducible exact H) | (have H2_ := (Option.bind_some _ _).symm.trans H; rw [hy260]; with_reducible exact H2_) | (have H2_ := (Option.bind_some _ _).symm.trans H; with_reducible exact H2_) | with_reducible exact H | (rw [hy260]; exact H) | exact H
                    have Ny260 := Aside0.mk hy260
                    clear hy260
                    by_cases c16 : a2 = 76
                    · rw [if_pos c16] at H
                      have c16b0 : (a2 == 76) = true := beq_iff_eq.mpr c16
                      have c16b1 : (a2 != 76) = false := bne_eq_false_iff_eq.mpr c16
                      clear c16
                      obtain ⟨y261, hy261⟩ : ∃ y_ : List Int, y_ = (y260.set (x9_1 : Int).toNat a2) := ⟨_, rfl⟩
                      replace H : (tammyref08_Of.j1 k1 l0 l1 a2 t254 y261 x9_1) = some r := by first | (rw [hy261]; with_reducible exact H) | (have H2_ := (Option.bind_some _ _).symm.trans H; rw [hy261]; with_reducible exact H2_) | (have H2_ := (Option.bind_some _ _).symm.trans H; with_reducible exact H2_) | with_reducible exact H | (rw [hy261]; exact H) | exact H
                      have Ny261 := Aside0.mk hy261
                      clear hy261
                      have H' := Aside0.mk H
                      clear H
                      have p15 : 0 ≤ (x9_1 : Int) := of_decide_eq_true (by first | (with_reducible assumption) | assumption)
                      have q15 : (x9_1 : Int) < ((x8_1.length : Int) : Int) := of_decide_eq_true (by first | (with_reducible assumption) | assumption)
                      obtain ⟨go15, co15, eo15, gb15, gl15, cl15, HG15⟩ := Kd.R_form HO_8.out (by omega)
                      (first | cases eo15 | (injection eo15 with ea_ en_ ec_; (first | subst ea_ | (injection ea_ with ea_; subst ea_)); subst ec_; clear en_))
                      have GB15 := Aside0.mk gb15
                      have GG15 := Aside0.mk HG15
                      clear gb15 gl15 HG15
                      obtain ⟨hx15_0, hf15_0⟩ := Kd.R_celln 0 HO_8.out (x9_1 : Int) p15 q15
                      replace p15 := eq_true p15
                      replace q15 := eq_true q15
                      have HP18 := Kd.R_putg HO_8.out (x9_1 : Int) 66
                      go_wp2_with (first | ((with_reducible refine gate_store (t := 5) (p := 31) rfl ?_); refine store_event (t := 5) (p := 31) (v := ?vo_w19) (w1 := (wr.setCell ⟨go15, (x9_1 : Int).toNat, none⟩ (.int .u8 66))) ?hg ?ho ?hn ?hr ?_; (case ho => rfl); (case hg => rfl); (case hn => rfl); (case hr => first | (go_simp; done) | (go_simp; rfl)); intro w19 hw; have hg : wr.grownBy w19 (some go15) := (by rw [hw]; exact HP18.2); have hp_ : Kd.R (Kd.int .u8) 5 w19 w.heap.size (fun _ => True) (.slice (some ⟨go15, 0, none⟩) x8_1.length co15) y260 := (by rw [hw, Ny260.out]; exact HP18.1); clear HP18; have n0_ := Aside0.mk (Kd.R_over' (v := (.slice (some ⟨go15, 0, none⟩) x8_1.length co15)) (by (with_reducible repeat (first | apply Kd.R_alloc | apply Kd.R_drewN | apply Kd.R_drew)); exact HO_7.out) (Kd.R_typed HO_8.out) (by decide) hg); have n1_ := Aside0.mk (hp_); have n2_ := Aside0.mk ((by rw [hw]; exact below_set (HB.out) GB15.out : Below w.heap.size w w19)); clear HO_7; clear HO_8; clear HB; have HO_7 := n0_; have HO_8 := n1_; have HB := n2_; clear n0_ n1_ n2_; clear hg hw hp_; have p17 : 0 ≤ (x9_1 : Int) := of_decide_eq_true (by first | (with_reducible assumption) | assumption); have q17 : (x9_1 : Int) < ((x8_1.length : Int) : Int) := of_decide_eq_true (by first | (with_reducible assumption) | assumption); obtain ⟨hx17_0, hf17_0⟩ := Kd.R_celln 0 HO_8.out (x9_1 : Int) p17 q17; replace p17 := eq_true p17; replace q17 := eq_true q17; obtain ⟨hy20_, hz20_⟩ := Kd.R_celln 0 HO_8.out (x9_1 : Int) (of_decide_eq_true (by first | (with_reducible assumption) | assumption)) (of_decide_eq_true (by first | (with_reducible assumption) | assumption)); have HP20 := Kd.R_putg HO_8.out (x9_1 : Int) a2) | ((with_reducible refine gate_store (t := 5) (p := 41) rfl ?_); refine store_event (t := 5) (p := 41) (v := ?vo_w21) (w1 := (w19.setCell ⟨go15, (x9_1 : Int).toNat, none⟩ (.int .u8 a2))) ?hg ?ho ?hn ?hr ?_; (case ho => rfl); (case hg => rfl); (case hn => rfl); (case hr => first | (go_simp; done) | (go_simp; rfl)); intro w21 hw; have hg : w19.grownBy w21 (some go15) := (by rw [hw]; exact HP20.2); have hp_ : Kd.R (Kd.int .u8) 5 w21 w.heap.size (fun _ => True) (.slice (some ⟨go15, 0, none⟩) x8_1.length co15) y261 := (by rw [hw, Ny261.out]; exact HP20.1); clear HP20; have n0_ := Aside0.mk (Kd.R_over' (v := (.slice (some ⟨go15, 0, none⟩) x8_1.length co15)) (by (with_reducible repeat (first | apply Kd.R_alloc | apply Kd.R_drewN | apply Kd.R_drew)); exact HO_7.out) (Kd.R_typed HO_8.out) (by decide) hg); have n1_ := Aside0.mk (hp_); have n2_ := Aside0.mk ((by rw [hw]; exact below_set (HB.out) GB15.out : Below w.heap.size w w21)); clear HO_7; clear HO_8; clear HB; have HO_7 := n0_; have HO_8 := n1_; have HB := n2_; clear n0_ n1_ n2_; clear hg hw hp_))
                      go_meet
                      case rel => exact ⟨_, (y261), H', ⟨by have := HK1.out; first | omega | exact Nat.le_refl _⟩, ⟨by (with_reducible repeat (first | apply Kd.R_alloc | apply Kd.R_drewN | apply Kd.R_drew)); exact HO_7.out⟩, ⟨by (with_reducible repeat (first | apply Kd.R_alloc | apply Kd.R_drewN | apply Kd.R_drew)); exact HO_8.out⟩, ⟨by repeat (first | (with_reducible first | exact HB.out | apply below_alloc | apply pw_below_drewN | apply below_drew1) | exact HB.out)⟩⟩
                    · rw [if_neg c16] at H
                      have c16b0 : (a2 == 76) = false := beq_eq_false_iff_ne.mpr c16
                      have c16b1 : (a2 != 76) = true := bne_iff_ne.mpr c16
                      by_cases c22 : a2 = 82
                      · rw [if_pos c22] at H
                        have c22b0 : (a2 == 82) = true := beq_iff_eq.mpr c22
                        have c22b1 : (a2 != 82) = false := bne_eq_false_iff_eq.mpr c22
                        clear c22
                        obtain ⟨y262, hy262⟩ : ∃ y_ : List Int, y_ = (y260.set (x9_1 : Int).toNat a2) := ⟨_, rfl⟩
                        replace H : (tammyref08_Of.j1 k1 l0 l1 a2 t254 y262 x9_1) = some r := by first | (rw [hy262]; with_reducible exact H) | (have H2_ := (Option.bind_some _ _).symm.trans H; rw [hy262]; with_reducible exact H2_) | (have H2_ := (Option.bind_some _ _).symm.trans H; with_reducible exact H2_) | with_reducible exact H | (rw [hy262]; exact H) | exact H
                        have Ny262 := Aside0.mk hy262
                        clear hy262
                        have H' := Aside0.mk H
                        clear H
                        have p15 : 0 ≤ (x9_1 : Int) := of_decide_eq_true (by first | (with_reducible assumption) | assumption)
                        have q15 : (x9_1 : Int) < ((x8_1.length : Int) : Int) := of_decide_eq_true (by first | (with_reducible assumption) | assumption)
                        obtain ⟨go15, co15, eo15, gb15, gl15, cl15, HG15⟩ := Kd.R_form HO_8.out (by omega)
                        (first | cases eo15 | (injection eo15 with ea_ en_ ec_; (first | subst ea_ | (injection ea_ with ea_; subst ea_)); subst ec_; clear en_))
                        have GB15 := Aside0.mk gb15
                        have GG15 := Aside0.mk HG15
                        clear gb15 gl15 HG15
                        obtain ⟨hx15_0, hf15_0⟩ := Kd.R_celln 0 HO_8.out (x9_1 : Int) p15 q15
                        replace p15 := eq_true p15
                        replace q15 := eq_true q15
                        have HP24 := Kd.R_putg HO_8.out (x9_1 : Int) 66
                        go_wp2_with (first | ((with_reducible refine gate_store (t := 5) (p := 31) rfl ?_); refine store_event (t := 5) (p := 31) (v := ?vo_w25) (w1 := (wr.setCell ⟨go15, (x9_1 : Int).toNat, none⟩ (.int .u8 66))) ?hg ?ho ?hn ?hr ?_; (case ho => rfl); (case hg => rfl); (case hn => rfl); (case hr => first | (go_simp; done) | (go_simp; rfl)); intro w25 hw; have hg : wr.grownBy w25 (some go15) := (by rw [hw]; exact HP24.2); have hp_ : Kd.R (Kd.int .u8) 5 w25 w.heap.size (fun _ => True) (.slice (some ⟨go15, 0, none⟩) x8_1.length co15) y260 := (by rw [hw, Ny260.out]; exact HP24.1); clear HP24; have n0_ := Aside0.mk (Kd.R_over' (v := (.slice (some ⟨go15, 0, none⟩) x8_1.length co15)) (by (with_reducible repeat (first | apply Kd.R_alloc | apply Kd.R_drewN | apply Kd.R_drew)); exact HO_7.out) (Kd.R_typed HO_8.out) (by decide) hg); have n1_ := Aside0.mk (hp_); have n2_ := Aside0.mk ((by rw [hw]; exact below_set (HB.out) GB15.out : Below w.heap.size w w25)); clear HO_7; clear HO_8; clear HB; have HO_7 := n0_; have HO_8 := n1_; have HB := n2_; clear n0_ n1_ n2_; clear hg hw hp_; have p23 : 0 ≤ (x9_1 : Int) := of_decide_eq_true (by first | (with_reducible assumption) | assumption); have q23 : (x9_1 : Int) < ((x8_1.length : Int) : Int) := of_decide_eq_true (by first | (with_reducible assumption) | assumption); obtain ⟨hx23_0, hf23_0⟩ := Kd.R_celln 0 HO_8.out (x9_1 : Int) p23 q23; replace p23 := eq_true p23; replace q23 := eq_true q23; obtain ⟨hy26_, hz26_⟩ := Kd.R_celln 0 HO_8.out (x9_1 : Int) (of_decide_eq_true (by first | (with_reducible assumption) | assumption)) (of_decide_eq_true (by first | (with_reducible assumption) | assumption)); have HP26 := Kd.R_putg HO_8.out (x9_1 : Int) a2) | ((with_reducible refine gate_store (t := 5) (p := 41) rfl ?_); refine store_event (t := 5) (p := 41) (v := ?vo_w27) (w1 := (w25.setCell ⟨go15, (x9_1 : Int).toNat, none⟩ (.int .u8 a2))) ?hg ?ho ?hn ?hr ?_; (case ho => rfl); (case hg => rfl); (case hn => rfl); (case hr => first | (go_simp; done) | (go_simp; rfl)); intro w27 hw; have hg : w25.grownBy w27 (some go15) := (by rw [hw]; exact HP26.2); have hp_ : Kd.R (Kd.int .u8) 5 w27 w.heap.size (fun _ => True) (.slice (some ⟨go15, 0, none⟩) x8_1.length co15) y262 := (by rw [hw, Ny262.out]; exact HP26.1); clear HP26; have n0_ := Aside0.mk (Kd.R_over' (v := (.slice (some ⟨go15, 0, none⟩) x8_1.length co15)) (by (with_reducible repeat (first | apply Kd.R_alloc | apply Kd.R_drewN | apply Kd.R_drew)); exact HO_7.out) (Kd.R_typed HO_8.out) (by decide) hg); have n1_ := Aside0.mk (hp_); have n2_ := Aside0.mk ((by rw [hw]; exact below_set (HB.out) GB15.out : Below w.heap.size w w27)); clear HO_7; clear HO_8; clear HB; have HO_7 := n0_; have HO_8 := n1_; have HB := n2_; clear n0_ n1_ n2_; clear hg hw hp_))
                        go_meet
                        case rel => exact ⟨_, (y262), H', ⟨by have := HK1.out; first | omega | exact Nat.le_refl _⟩, ⟨by (with_reducible repeat (first | apply Kd.R_alloc | apply Kd.R_drewN | apply Kd.R_drew)); exact HO_7.out⟩, ⟨by (with_reducible repeat (first | apply Kd.R_alloc | apply Kd.R_drewN | apply Kd.R_drew)); exact HO_8.out⟩, ⟨by repeat (first | (with_reducible first | exact HB.out | apply below_alloc | apply pw_below_drewN | apply below_drew1) | exact HB.out)⟩⟩
                      · rw [if_neg c22] at H
                        have c22b0 : (a2 == 82) = false := beq_eq_false_iff_ne.mpr c22
                        have c22b1 : (a2 != 82) = true := bne_iff_ne.mpr c22
                        have H' := Aside0.mk H
                        clear H
                        have p15 : 0 ≤ (x9_1 : Int) := of_decide_eq_true (by first | (with_reducible assumption) | assumption)
                        have q15 : (x9_1 : Int) < ((x8_1.length : Int) : Int) := of_decide_eq_true (by first | (with_reducible assumption) | assumption)
                        obtain ⟨go15, co15, eo15, gb15, gl15, cl15, HG15⟩ := Kd.R_form HO_8.out (by omega)
                        (first | cases eo15 | (injection eo15 with ea_ en_ ec_; (first | subst ea_ | (injection ea_ with ea_; subst ea_)); subst ec_; clear en_))
                        have GB15 := Aside0.mk gb15
                        have GG15 := Aside0.mk HG15
                        clear gb15 gl15 HG15
                        obtain ⟨hx15_0, hf15_0⟩ := Kd.R_celln 0 HO_8.out (x9_1 : Int) p15 q15
                        replace p15 := eq_true p15
                        replace q15 := eq_true q15
                        have HP28 := Kd.R_putg HO_8.out (x9_1 : Int) 66
                        go_wp2_with (first | ((with_reducible refine gate_store (t := 5) (p := 31) rfl ?_); refine store_event (t := 5) (p := 31) (v := ?vo_w29) (w1 := (wr.setCell ⟨go15, (x9_1 : Int).toNat, none⟩ (.int .u8 66))) ?hg ?ho ?hn ?hr ?_; (case ho => rfl); (case hg => rfl); (case hn => rfl); (case hr => first | (go_simp; done) | (go_simp; rfl)); intro w29 hw; have hg : wr.grownBy w29 (some go15) := (by rw [hw]; exact HP28.2); have hp_ : Kd.R (Kd.int .u8) 5 w29 w.heap.size (fun _ => True) (.slice (some ⟨go15, 0, none⟩) x8_1.length co15) y260 := (by rw [hw, Ny260.out]; exact HP28.1); clear HP28; have n0_ := Aside0.mk (Kd.R_over' (v := (.slice (some ⟨go15, 0, none⟩) x8_1.length co15)) (by (with_reducible repeat (first | apply Kd.R_alloc | apply Kd.R_drewN | apply Kd.R_drew)); exact HO_7.out) (Kd.R_typed HO_8.out) (by decide) hg); have n1_ := Aside0.mk (hp_); have n2_ := Aside0.mk ((by rw [hw]; exact below_set (HB.out) GB15.out : Below w.heap.size w w29)); clear HO_7; clear HO_8; clear HB; have HO_7 := n0_; have HO_8 := n1_; have HB := n2_; clear n0_ n1_ n2_; clear hg hw hp_))
                        go_meet
                        case rel => exact ⟨_, (y260), H', ⟨by have := HK1.out; first | omega | exact Nat.le_refl _⟩, ⟨by (with_reducible repeat (first | apply Kd.R_alloc | apply Kd.R_drewN | apply Kd.R_drew)); exact HO_7.out⟩, ⟨by (with_reducible repeat (first | apply Kd.R_alloc | apply Kd.R_drewN | apply Kd.R_drew)); exact HO_8.out⟩, ⟨by repeat (first | (with_reducible first | exact HB.out | apply below_alloc | apply pw_below_drewN | apply below_drew1) | exact HB.out)⟩⟩
                  · rw [if_neg c14] at H
                    exact absurd H (by simp)
                · rw [if_neg c13] at H
                  exact absurd H (by simp)
              · rw [if_neg c12] at H
                have c12b0 : (x9_1 == (wrap64 ((l1.length : Int) - 1))) = false := beq_eq_false_iff_ne.mpr c12
                have c12b1 : (x9_1 != (wrap64 ((l1.length : Int) - 1))) = true := bne_iff_ne.mpr c12
                (first | rw [c12b0] | (simp only [i64_w, i32_w]; rw [c12b0]) | skip)
                have H' := Aside0.mk H
                clear H
                go_wp2
                go_meet
                case rel => exact ⟨_, (x8_1), H', ⟨by have := HK1.out; first | omega | exact Nat.le_refl _⟩, ⟨by (with_reducible repeat (first | apply Kd.R_alloc | apply Kd.R_drewN | apply Kd.R_drew)); exact HO_7.out⟩, ⟨by (with_reducible repeat (first | apply Kd.R_alloc | apply Kd.R_drewN | apply Kd.R_drew)); exact HO_8.out⟩, ⟨by repeat (first | (with_reducible first | exact HB.out | apply below_alloc | apply pw_below_drewN | apply below_drew1) | exact HB.out)⟩⟩
            case rest =>
              clear HC11
              try clear c1
              try clear p1
              try clear q1
              try clear hx1
              try clear c2
              try clear p2
              try clear q2
              try clear hx2
              try clear c5
              try clear c5b0
              try clear c5b1
              try clear c6
              try clear c6b0
              try clear c6b1
              try clear p6
              try clear c10
              try clear c10b0
              try clear c12
              try clear c12b0
              try clear c12b1
              try clear c13
              try clear c13b0
              try clear c14
              try clear c14b0
              try clear c15
              try clear p15
              try clear q15
              try clear hx15
              try clear hf15
              try clear c16
              try clear c16b0
              try clear c16b1
              try clear p17
              try clear q17
              try clear hx17
              try clear hf17
              try clear c19
              try clear c22
              try clear c22b0
              try clear c22b1
              try clear p23
              try clear q23
              try clear hx23
              try clear hf23
              try clear hx15_0
              try clear hx17_0
              try clear hx23_0
              try clear p15
              try clear p17
              try clear p2
              try clear p23
              try clear p6
              try clear q15
              try clear q17
              try clear q23
              obtain ⟨kq, x8_10, HA, HJ10, HO_7, HO_8, HB⟩ := hcut
              cases kq with
              | zero => exact absurd HA.out (by simp [tammyref08_Of.j1])
              | succ kj10 =>
                have H := HA.out
                clear HA
                simp only [tammyref08_Of.j1] at H
                replace H := Option.bind_eq_some_iff.mp H
                obtain ⟨t263, A300, H⟩ := H
                replace H : (tammyref08_Of.l1 kj10 l0 l1 a2 t254 x8_10 x9_1 t263 0) = some r := H
                have A30 := Aside0.mk A300
                clear A300
                have H' := Aside0.mk H
                clear H
                obtain ⟨Ao31, co31, eo31⟩ := Kd.R_slice HO_7.out
                subst eo31
                go_wp2_with (first | ((with_reducible refine gate_callee (f := 32) rfl ?_); refine goesL_ (some 45) rfl rfl Try.func32 (by kernel_rfl) rfl #[.slice A1 l1.length c1, .slice Ao31 t254.length co31, .int .i64 x9_1] rfl (by (try simp only [List.map_toArray, List.map_cons, List.map_nil]); first | done | rfl | (simp only [List.length_drop, List.length_take]; rfl)) ?_; (with_reducible refine (tammyref07_Kids.calls kj10 _ _ l1 _ _ t254 x9_1 t263 _ ?side1 ?side2 ?side3 ?side4 A30.out).mono ?_); (case side1 => repeat (first | exact (Kd.C_below HR1.out HB.out) | (with_reducible refine Kd.C_alloc ?_ _) | (with_reducible refine Kd.C_drewN ?_ _) | (with_reducible refine Kd.C_drew ?_))); (case side2 => exact HC1.out); (case side3 => repeat (first | exact (Kd.R_reads' HO_7.out).2.2 | (with_reducible refine Kd.C_alloc ?_ _) | (with_reducible refine Kd.C_drewN ?_ _) | (with_reducible refine Kd.C_drew ?_))); (case side4 => exact (Kd.R_reads' HO_7.out).2.1); rintro e w32 ⟨v264, rfl, ho0, hb⟩; refine ⟨_, rfl, ?_⟩; have n0_ := Aside0.mk (Kd.R_elder' (by (with_reducible repeat (first | apply Kd.R_alloc | apply Kd.R_drewN | apply Kd.R_drew)); exact HO_7.out) (Kd.R_base ho0) hb); have n1_ := Aside0.mk (Kd.R_below (by (with_reducible repeat (first | apply Kd.R_alloc | apply Kd.R_drewN | apply Kd.R_drew)); exact HO_8.out) hb); have n2_ := Aside0.mk (Kd.R_lower (Kd.R_new' ho0 (Kd.R_lt (by (with_reducible repeat (first | apply Kd.R_alloc | apply Kd.R_drewN | apply Kd.R_drew)); exact HO_7.out))) (below_size (by repeat (first | (with_reducible first | exact HB.out | apply below_alloc | apply pw_below_drewN | apply below_drew1) | exact HB.out)))); have n3_ := Aside0.mk (below_step (by repeat (first | (with_reducible first | exact HB.out | apply below_alloc | apply pw_below_drewN | apply below_drew1) | exact HB.out)) hb); clear HO_7; clear HO_8; clear HB; have HO_7 := n0_; have HO_8 := n1_; have HO265 := n2_; have HB := n3_; clear n0_ n1_ n2_ n3_; (try clear hb); (try clear hb2); (try clear hk); (try clear hi); (try clear ho0)))
                go_loopg [11] kj10 (fun kq v11 w' => ∃ (x8_3 : List Int) (x11_3 : Int), v11 = .int .i64 x11_3 ∧ Aside0 (tammyref08_Of.l1 kq l0 l1 a2 t254 x8_3 x9_1 t263 x11_3 = some r) ∧ Aside0 (kq ≤ kj10) ∧ Aside0 (Kd.R (Kd.int .i64) 3 w' w.heap.size (fun k_ => some k_ ≠ (v264 : Value).ownBlock) (.slice Ao31 t254.length co31) t254) ∧ Aside0 (Kd.R (Kd.int .u8) 5 w' w.heap.size (fun _ => True) v258 x8_3) ∧ Aside0 (Kd.R (Kd.int .i64) 3 w' w.heap.size (fun k_ => some k_ ≠ ((.slice Ao31 t254.length co31) : Value).ownBlock) v264 t263) ∧ Aside0 (Below w.heap.size w w'))
                case atStart => exact ⟨(x8_10), (0), (by first | rfl | (simp; done) | (simp [*]; done)), H', ⟨Nat.le_refl _⟩, ⟨by (with_reducible repeat (first | apply Kd.R_alloc | apply Kd.R_drewN | apply Kd.R_drew)); exact Kd.R_mono HO_7.out (fun _ hk => hk.2)⟩, ⟨by (with_reducible repeat (first | apply Kd.R_alloc | apply Kd.R_drewN | apply Kd.R_drew)); exact HO_8.out⟩, ⟨by (with_reducible repeat (first | apply Kd.R_alloc | apply Kd.R_drewN | apply Kd.R_drew)); exact Kd.R_mono HO265.out (fun _ hk => hk.2)⟩, ⟨by repeat (first | (with_reducible first | exact HB.out | apply below_alloc | apply pw_below_drewN | apply below_drew1) | exact HB.out)⟩⟩
                case round =>
                  clear H'
                  try clear c1
                  try clear p1
                  try clear q1
                  try clear hx1
                  try clear c2
                  try clear p2
                  try clear q2
                  try clear hx2
                  try clear c3
                  try clear c5
                  try clear c5b0
                  try clear c5b1
                  try clear c6
                  try clear c6b0
                  try clear c6b1
                  try clear p6
                  try clear c10
                  try clear c10b0
                  try clear c12
                  try clear c12b0
                  try clear c12b1
                  try clear c13
                  try clear c13b0
                  try clear c14
                  try clear c14b0
                  try clear c15
                  try clear p15
                  try clear q15
                  try clear hx15
                  try clear hf15
                  try clear c16
                  try clear c16b0
                  try clear c16b1
                  try clear p17
                  try clear q17
                  try clear hx17
                  try clear hf17
                  try clear c19
                  try clear c22
                  try clear c22b0
                  try clear c22b1
                  try clear p23
                  try clear q23
                  try clear hx23
                  try clear hf23
                  try clear c32
                  try clear hx15_0
                  try clear hx17_0
                  try clear hx23_0
                  try clear p1
                  try clear p15
                  try clear p17
                  try clear p2
                  try clear p23
                  try clear p6
                  try clear q1
                  try clear q15
                  try clear q17
                  try clear q2
                  try clear q23
                  obtain ⟨x8_3, x11_3, rfl, HA, HK3, HO_7, HO_8, HO_10, HB⟩ := hrel
                  cases gk with
                  | zero => exact absurd HA.out (by simp [tammyref08_Of.l1])
                  | succ k3 =>
                    have H := HA.out
                    clear HA
                    simp only [tammyref08_Of.l1] at H
                    by_cases c33 : x11_3 < (t263.length : Int)
                    · rw [if_pos c33] at H
                      have c33b0 : decide (x11_3 < (t263.length : Int)) = true := decide_eq_true c33
                      clear c33
                      by_cases c34 : 0 ≤ x11_3
                      · rw [if_pos c34] at H
                        have c34b0 : decide (0 ≤ x11_3) = true := decide_eq_true c34
                        clear c34
                        by_cases c35 : 0 ≤ x9_1
                        · rw [if_pos c35] at H
                          have c35b0 : decide (0 ≤ x9_1) = true := decide_eq_true c35
                          clear c35
                          by_cases c36 : x9_1 < (x8_3.length : Int)
                          · rw [if_pos c36] at H
                            have c36b0 : decide (x9_1 < (x8_3.length : Int)) = true := decide_eq_true c36
                            clear c36
                            by_cases c37 : x9_1 < (l1.length : Int)
                            · rw [if_pos c37] at H
                              have c37b0 : decide (x9_1 < (l1.length : Int)) = true := decide_eq_true c37
                              clear c37
                              replace H := Option.bind_eq_some_iff.mp H
                              obtain ⟨t269, A380, H⟩ := H
                              replace H : ((tammyref08_Turn.f k3 (rd x8_3 x9_1) t269).bind fun t270 => (if 0 ≤ (rd t263 x11_3) then (if (rd t263 x11_3) < (x8_3.length : Int) then (tammyref08_Of.l1 k3 l0 l1 a2 t254 (x8_3.set ((rd t263 x11_3) : Int).toNat t270) x9_1 t263 (wrap64 (x11_3 + 1))) else (none)) else (none))) = some r := H
                              have A38 := Aside0.mk A380
                              clear A380
                              replace H := Option.bind_eq_some_iff.mp H
                              obtain ⟨t270, A390, H⟩ := H
                              replace H : (if 0 ≤ (rd t263 x11_3) then (if (rd t263 x11_3) < (x8_3.length : Int) then (tammyref08_Of.l1 k3 l0 l1 a2 t254 (x8_3.set ((rd t263 x11_3) : Int).toNat t270) x9_1 t263 (wrap64 (x11_3 + 1))) else (none)) else (none)) = some r := H
                              have A39 := Aside0.mk A390
                              clear A390
                              by_cases c40 : 0 ≤ (rd t263 x11_3)
                              · rw [if_pos c40] at H
                                have c40b0 : decide (0 ≤ (rd t263 x11_3)) = true := decide_eq_true c40
                                clear c40
                                by_cases c41 : (rd t263 x11_3) < (x8_3.length : Int)
                                · rw [if_pos c41] at H
                                  have c41b0 : decide ((rd t263 x11_3) < (x8_3.length : Int)) = true := decide_eq_true c41
                                  clear c41
                                  obtain ⟨y271, hy271⟩ : ∃ y_ : List Int, y_ = (x8_3.set ((rd t263 x11_3) : Int).toNat t270) := ⟨_, rfl⟩
                                  replace H : (tammyref08_Of.l1 k3 l0 l1 a2 t254 y271 x9_1 t263 (wrap64 (x11_3 + 1))) = some r := by first | (rw [hy271]; with_reducible exact H) | (have H2_ := (Option.bind_some _ _).symm.trans H; rw [hy271]; with_reducible exact H2_) | (have H2_ := (Option.bind_some _ _).symm.trans H; with_reducible exact H2_) | with_reducible exact H | (rw [hy271]; exact H) | exact H
                                  have Ny271 := Aside0.mk hy271
                                  clear hy271
                                  have H' := Aside0.mk H
                                  clear H
                                  obtain ⟨Ao43, co43, eo43⟩ := Kd.R_slice HO_10.out
                                  subst eo43
                                  try go_wp2
                                  have n0_ := Aside0.mk (Kd.R_drew HO_7.out)
                                  have n1_ := Aside0.mk (Kd.R_drew HO_8.out)
                                  have n2_ := Aside0.mk (Kd.R_drew HO_10.out)
                                  have n3_ := Aside0.mk (below_drew1 HB.out)
                                  clear HO_7
                                  clear HO_8
                                  clear HO_10
                                  clear HB
                                  have HO_7 := n0_
                                  have HO_8 := n1_
                                  have HO_10 := n2_
                                  have HB := n3_
                                  clear n0_ n1_ n2_ n3_
                                  have p266 : 0 ≤ (x11_3 : Int) := of_decide_eq_true (by first | (with_reducible assumption) | assumption)
                                  have q266 : x11_3 < (t263.length : Int) := of_decide_eq_true (by first | (with_reducible assumption) | assumption)
                                  obtain ⟨ad266, e266, hx266_0⟩ := Kd.at_int (Kd.R_reads' HO_10.out).2.2 x11_3 p266 q266
                                  cases e266
                                  replace p266 := eq_true p266
                                  replace q266 := eq_true q266
                                  obtain ⟨Ao45, co45, eo45⟩ := Kd.R_slice HO_8.out
                                  (first | subst eo45 | (injection eo45 with f1_ f2_ f3_; have f4_ := f1_.symm; have f5_ := f3_.symm; clear f1_ f2_ f3_; subst f4_; subst f5_))
                                  have p267 : 0 ≤ (x9_1 : Int) := of_decide_eq_true (by first | (with_reducible assumption) | assumption)
                                  have q267 : x9_1 < (x8_3.length : Int) := of_decide_eq_true (by first | (with_reducible assumption) | assumption)
                                  obtain ⟨ad267, e267, hx267_0⟩ := Kd.at_int (Kd.R_reads' HO_8.out).2.2 x9_1 p267 q267
                                  cases e267
                                  replace p267 := eq_true p267
                                  replace q267 := eq_true q267
                                  have p268 : 0 ≤ (x9_1 : Int) := of_decide_eq_true (by first | (with_reducible assumption) | assumption)
                                  have q268 : x9_1 < (l1.length : Int) := of_decide_eq_true (by first | (with_reducible assumption) | assumption)
                                  obtain ⟨ad268, e268, hx268_0, hx268_1, hx268_2⟩ := at_T38 HR1.out x9_1 p268 q268
                                  have hw268_2 := hx268_2
                                  have hw268_1 := hx268_1
                                  have hw268_0 := hx268_0
                                  cases e268
                                  replace hx268_0 := (HB.out.cell (World.block_lt_of_cell? w _ hx268_0)).trans hx268_0
                                  replace hx268_1 := (HB.out.cell (World.block_lt_of_cell? w _ hx268_1)).trans hx268_1
                                  replace hx268_2 := (HB.out.cell (World.block_lt_of_cell? w _ hx268_2)).trans hx268_2
                                  replace p268 := eq_true p268
                                  replace q268 := eq_true q268
                                  refine start_ (n := 19) (S := fun w' => w'.cell? (ad266.add (x11_3).toNat) = some (.int .i64 (rd t263 x11_3)) ∧ w'.cell? (ad267.add (x9_1).toNat) = some (.int .u8 (rd x8_3 x9_1)) ∧ w'.cell? (ad268.add ((x9_1).toNat * 3)) = some (.int .i64 ((rd_T38 l1 x9_1).f0)) ∧ w'.cell? ⟨(ad268.add ((x9_1).toNat * 3)).block, (ad268.add ((x9_1).toNat * 3)).off + 1, none⟩ = some (.string ((rd_T38 l1 x9_1).f1)) ∧ w'.cell? ⟨(ad268.add ((x9_1).toNat * 3)).block, (ad268.add ((x9_1).toNat * 3)).off + 2, none⟩ = some (.int .i64 ((rd_T38 l1 x9_1).f2))) (ds := [18]) #[false, false, false, false, false, false, false, false, false, false, false, false, false, false, false, false, false, false, false] (by kernel_rfl) rfl rfl ⟨hx266_0, hx267_0, ((HB.out.cell (World.block_lt_of_cell? w _ hw268_0)).trans hw268_0), ((HB.out.cell (World.block_lt_of_cell? w _ hw268_1)).trans hw268_1), ((HB.out.cell (World.block_lt_of_cell? w _ hw268_2)).trans hw268_2)⟩ (fun hHeld => ?_); refine with_tabW tammyref08_Of.tab14 tammyref08_Of.bits14 (fun HT_ HW_ => ?_)
                                  generalize wr.drew = w44 at HO_7 HO_8 HO_10 HB hx266_0 hx267_0 hx268_0 hx268_1 hx268_2 hHeld ⊢
                                  refine pure_ (i := 0) (N := some 52) (v := ?_) (a' := ?_) #[true, false, false, false, false, false, false, false, false, false, false, false, false, false, false, false, false, false, false] rfl rfl (any_of HT_.out (by kernel_rfl)) (fun _ _ _ h => h) (Or.inl ⟨by rfl, ?_⟩) ?_ ?_
                                  rotate_left
                                  · intro w'
                                    go_simp
                                    with_reducible rfl
                                  rotate_left
                                  · simp only [Act.put, List.setIfInBounds_toArray, List.set_cons_zero, List.set_cons_succ, i64_w, i32_w]
                                    rfl
                                  refine pure_ (i := 1) (N := some 53) (v := ?_) (a' := ?_) #[true, true, false, false, false, false, false, false, false, false, false, false, false, false, false, false, false, false, false] rfl rfl (any_of HT_.out (by kernel_rfl)) (fun _ _ _ h => h) (Or.inl ⟨by rfl, ?_⟩) ?_ ?_
                                  rotate_left
                                  · intro w'
                                    go_simp
                                    with_reducible rfl
                                  rotate_left
                                  · simp only [Act.put, List.setIfInBounds_toArray, List.set_cons_zero, List.set_cons_succ, i64_w, i32_w]
                                    rfl
                                  refine pure_ (i := 2) (N := some 54) (v := ?_) (a' := ?_) #[true, true, true, false, false, false, false, false, false, false, false, false, false, false, false, false, false, false, false] rfl rfl (any_of HT_.out (by kernel_rfl)) (fun _ _ _ h => h) (Or.inl ⟨by rfl, ?_⟩) ?_ ?_
                                  rotate_left
                                  · intro w'
                                    go_simp
                                    with_reducible rfl
                                  rotate_left
                                  · simp only [Act.put, List.setIfInBounds_toArray, List.set_cons_zero, List.set_cons_succ, i64_w, i32_w]
                                    rfl
                                  refine pure_ (i := 3) (N := some 55) (v := ?_) (a' := ?_) #[true, true, true, true, false, false, false, false, false, false, false, false, false, false, false, false, false, false, false] rfl rfl (any_of HT_.out (by kernel_rfl)) (fun _ _ _ h => h) (Or.inl ⟨by rfl, ?_⟩) ?_ ?_
                                  rotate_left
                                  · intro w'
                                    go_simp
                                    with_reducible rfl
                                  rotate_left
                                  · simp only [Act.put, List.setIfInBounds_toArray, List.set_cons_zero, List.set_cons_succ, i64_w, i32_w]
                                    rfl
                                  refine pure_ (i := 5) (N := some 57) (v := ?_) (a' := ?_) #[true, true, true, true, false, true, false, false, false, false, false, false, false, false, false, false, false, false, false] rfl rfl (any_of HT_.out (by kernel_rfl)) (fun _ _ _ h => h) (Or.inl ⟨by rfl, ?_⟩) ?_ ?_
                                  rotate_left
                                  · intro w'
                                    go_simp
                                    with_reducible rfl
                                  rotate_left
                                  · simp only [Act.put, List.setIfInBounds_toArray, List.set_cons_zero, List.set_cons_succ, i64_w, i32_w]
                                    rfl
                                  refine pure_ (i := 6) (N := some 58) (v := ?_) (a' := ?_) #[true, true, true, true, false, true, true, false, false, false, false, false, false, false, false, false, false, false, false] rfl rfl (any_of HT_.out (by kernel_rfl)) (fun _ _ _ h => h) (Or.inl ⟨by rfl, ?_⟩) ?_ ?_
                                  rotate_left
                                  · intro w'
                                    go_simp
                                    with_reducible rfl
                                  rotate_left
                                  · simp only [Act.put, List.setIfInBounds_toArray, List.set_cons_zero, List.set_cons_succ, i64_w, i32_w]
                                    rfl
                                  refine pure_ (i := 7) (N := some 59) (v := ?_) (a' := ?_) #[true, true, true, true, false, true, true, true, false, false, false, false, false, false, false, false, false, false, false] rfl rfl (any_of HT_.out (by kernel_rfl)) (fun _ _ _ h => h) (Or.inl ⟨by rfl, ?_⟩) ?_ ?_
                                  rotate_left
                                  · intro w'
                                    go_simp
                                    with_reducible rfl
                                  rotate_left
                                  · simp only [Act.put, List.setIfInBounds_toArray, List.set_cons_zero, List.set_cons_succ, i64_w, i32_w]
                                    rfl
                                  refine pure_ (i := 9) (N := some 61) (v := ?_) (a' := ?_) #[true, true, true, true, false, true, true, true, false, true, false, false, false, false, false, false, false, false, false] rfl rfl (any_of HT_.out (by kernel_rfl)) (fun _ _ _ h => h) (Or.inl ⟨by rfl, ?_⟩) ?_ ?_
                                  rotate_left
                                  · intro w'
                                    go_simp
                                    with_reducible rfl
                                  rotate_left
                                  · simp only [Act.put, List.setIfInBounds_toArray, List.set_cons_zero, List.set_cons_succ, i64_w, i32_w]
                                    rfl
                                  refine pure_ (i := 10) (N := some 62) (v := ?_) (a' := ?_) #[true, true, true, true, false, true, true, true, false, true, true, false, false, false, false, false, false, false, false] rfl rfl (any_of HT_.out (by kernel_rfl)) (fun _ _ _ h => h) (Or.inl ⟨by rfl, ?_⟩) ?_ ?_
                                  rotate_left
                                  · intro w'
                                    go_simp
                                    with_reducible rfl
                                  rotate_left
                                  · simp only [Act.put, List.setIfInBounds_toArray, List.set_cons_zero, List.set_cons_succ, i64_w, i32_w]
                                    rfl
                                  refine pure_ (i := 11) (N := some 63) (v := ?_) (a' := ?_) #[true, true, true, true, false, true, true, true, false, true, true, true, false, false, false, false, false, false, false] rfl rfl (any_of HT_.out (by kernel_rfl)) (fun _ _ _ h => h) (Or.inl ⟨by rfl, ?_⟩) ?_ ?_
                                  rotate_left
                                  · intro w'
                                    go_simp
                                    with_reducible rfl
                                  rotate_left
                                  · simp only [Act.put, List.setIfInBounds_toArray, List.set_cons_zero, List.set_cons_succ, i64_w, i32_w]
                                    rfl
                                  refine pure_ (i := 12) (N := some 64) (v := ?_) (a' := ?_) #[true, true, true, true, false, true, true, true, false, true, true, true, true, false, false, false, false, false, false] rfl rfl (any_of HT_.out (by kernel_rfl)) (fun _ _ _ h => h) (Or.inl ⟨by rfl, ?_⟩) ?_ ?_
                                  rotate_left
                                  · intro w'
                                    go_simp
                                    with_reducible rfl
                                  rotate_left
                                  · simp only [Act.put, List.setIfInBounds_toArray, List.set_cons_zero, List.set_cons_succ, i64_w, i32_w]
                                    rfl
                                  refine pure_ (i := 14) (N := some 66) (v := ?_) (a' := ?_) #[true, true, true, true, false, true, true, true, false, true, true, true, true, false, true, false, false, false, false] rfl rfl (any_of HT_.out (by kernel_rfl)) (fun _ _ _ h => h) (Or.inl ⟨by rfl, ?_⟩) ?_ ?_
                                  rotate_left
                                  · intro w'
                                    go_simp
                                    with_reducible rfl
                                  rotate_left
                                  · simp only [Act.put, List.setIfInBounds_toArray, List.set_cons_zero, List.set_cons_succ, i64_w, i32_w]
                                    rfl
                                  refine take_ (i := 4) (N := some 56) (v := ?_) (a' := ?_) #[true, true, true, true, true, true, true, true, false, true, true, true, true, false, true, false, false, false, false] rfl rfl (take_ofW HT_.out HW_.out (by kernel_rfl)) (fun _ _ _ h => h) (Or.inl ⟨by rfl, ?_⟩) hHeld ?_ ?_
                                  rotate_left
                                  · rintro w' ⟨s0, s1, s2, s3, s4⟩
                                    go_simp
                                    with_reducible rfl
                                  rotate_left
                                  · simp only [Act.put, List.setIfInBounds_toArray, List.set_cons_zero, List.set_cons_succ, i64_w, i32_w]
                                    rfl
                                  refine take_ (i := 8) (N := some 60) (v := ?_) (a' := ?_) #[true, true, true, true, true, true, true, true, true, true, true, true, true, false, true, false, false, false, false] rfl rfl (take_ofW HT_.out HW_.out (by kernel_rfl)) (fun _ _ _ h => h) (Or.inl ⟨by rfl, ?_⟩) hHeld ?_ ?_
                                  rotate_left
                                  · rintro w' ⟨s0, s1, s2, s3, s4⟩
                                    go_simp
                                    with_reducible rfl
                                  rotate_left
                                  · simp only [Act.put, List.setIfInBounds_toArray, List.set_cons_zero, List.set_cons_succ, i64_w, i32_w]
                                    rfl
                                  refine take_ (i := 13) (N := some 65) (v := ?_) (a' := ?_) #[true, true, true, true, true, true, true, true, true, true, true, true, true, true, true, false, false, false, false] rfl rfl (take_ofW HT_.out HW_.out (by kernel_rfl)) (fun _ _ _ h => h) (Or.inl ⟨by rfl, ?_⟩) hHeld ?_ ?_
                                  rotate_left
                                  · rintro w' ⟨s0, s1, s2, s3, s4⟩
                                    go_simp
                                    with_reducible rfl
                                  rotate_left
                                  · simp only [Act.put, List.setIfInBounds_toArray, List.set_cons_zero, List.set_cons_succ, i64_w, i32_w]
                                    rfl
                                  refine one_ (i := 15) (N := some 67) #[true, true, true, true, true, true, true, true, true, true, true, true, true, true, true, true, false, false, false] rfl rfl (one_of HT_.out (by kernel_rfl)) (by decide) (fun K hK => ?_)
                                  refine goes_ Try.func34 (by kernel_rfl) rfl #[.slice A0 l0.length c0, .agg #[.int .i64 ((rd_T38 l1 x9_1).f0), .string ((rd_T38 l1 x9_1).f1), .int .i64 ((rd_T38 l1 x9_1).f2)], .int .i64 x11_3] (by rfl) rfl rfl (by (try simp only [List.map_toArray, List.map_cons, List.map_nil]); first | done | rfl | (simp only [List.length_drop, List.length_take]; rfl)) ?_
                                  with_reducible refine (tammyref08_vary.calls k3 _ _ l0 ((rd_T38 l1 x9_1).f0) ((rd_T38 l1 x9_1).f1) ((rd_T38 l1 x9_1).f2) x11_3 t269 _ ?side1 ?side2 A38.out).mono ?_
                                  (case side1 => repeat (first | exact (Kd.C_below HR0.out HB.out) | (with_reducible refine Kd.C_alloc ?_ _) | (with_reducible refine Kd.C_drewN ?_ _) | (with_reducible refine Kd.C_drew ?_)))
                                  (case side2 => exact HC0.out)
                                  rintro e w46 ⟨rfl, hb⟩
                                  have HS0_ := (hb.cell (World.block_lt_of_cell? _ _ (hHeld.1))).trans (hHeld.1)
                                  have HS1_ := (hb.cell (World.block_lt_of_cell? _ _ (hHeld.2.1))).trans (hHeld.2.1)
                                  refine ⟨_, rfl, ?_⟩
                                  have n0_ := Aside0.mk (Kd.R_below (by (with_reducible repeat (first | apply Kd.R_alloc | apply Kd.R_drewN | apply Kd.R_drew)); exact HO_7.out) hb)
                                  have n1_ := Aside0.mk (Kd.R_below (by (with_reducible repeat (first | apply Kd.R_alloc | apply Kd.R_drewN | apply Kd.R_drew)); exact HO_8.out) hb)
                                  have n2_ := Aside0.mk (Kd.R_below (by (with_reducible repeat (first | apply Kd.R_alloc | apply Kd.R_drewN | apply Kd.R_drew)); exact HO_10.out) hb)
                                  have n3_ := Aside0.mk (below_step (by repeat (first | (with_reducible first | exact HB.out | apply below_alloc | apply pw_below_drewN | apply below_drew1) | exact HB.out)) hb)
                                  clear HO_7
                                  clear HO_8
                                  clear HO_10
                                  clear HB
                                  have HO_7 := n0_
                                  have HO_8 := n1_
                                  have HO_10 := n2_
                                  have HB := n3_
                                  clear n0_ n1_ n2_ n3_
                                  (try clear hb)
                                  (try clear hb2)
                                  (try clear hk)
                                  (try clear hi)
                                  refine hK.out _ _ ⟨HS0_, HS1_, ((HB.out.cell (World.block_lt_of_cell? w _ hw268_0)).trans hw268_0), ((HB.out.cell (World.block_lt_of_cell? w _ hw268_1)).trans hw268_1), ((HB.out.cell (World.block_lt_of_cell? w _ hw268_2)).trans hw268_2)⟩ (fun hHeld => ?_)
                                  clear hK K
                                  refine norm_ (a' := ?_) ?_ ?_
                                  rotate_left
                                  · show Act.put _ (some 67) _ = _
                                    simp only [Act.put, List.setIfInBounds_toArray, List.set_cons_zero, List.set_cons_succ, i64_w, i32_w]
                                    rfl
                                  refine one_ (i := 16) (N := some 68) #[true, true, true, true, true, true, true, true, true, true, true, true, true, true, true, true, true, false, false] rfl rfl (one_of HT_.out (by kernel_rfl)) (by decide) (fun K hK => ?_)
                                  refine goes_ Try.func33 (by kernel_rfl) rfl #[.int .u8 (rd x8_3 x9_1), .int .u8 t269] (by rfl) rfl rfl (by (try simp only [List.map_toArray, List.map_cons, List.map_nil]); first | done | rfl | (simp only [List.length_drop, List.length_take]; rfl)) ?_
                                  with_reducible refine (tammyref08_Turn.calls k3 (rd x8_3 x9_1) t269 t270 _ A39.out).mono ?_
                                  rintro e w' ⟨rfl, ⟨nd, rfl⟩⟩
                                  refine ⟨_, rfl, ?_⟩
                                  have p42 : 0 ≤ ((rd t263 x11_3) : Int) := of_decide_eq_true (by first | (with_reducible assumption) | assumption)
                                  have q42 : ((rd t263 x11_3) : Int) < ((x8_3.length : Int) : Int) := of_decide_eq_true (by first | (with_reducible assumption) | assumption)
                                  obtain ⟨go42, co42, eo42, gb42, gl42, cl42, HG42⟩ := Kd.R_form HO_8.out (by omega)
                                  (first | cases eo42 | (injection eo42 with ea_ en_ ec_; (first | subst ea_ | (injection ea_ with ea_; subst ea_)); subst ec_; clear en_))
                                  have GB42 := Aside0.mk gb42
                                  have GG42 := Aside0.mk HG42
                                  clear gb42 gl42 HG42
                                  (first | simp only [add_plain] at hx267_0 | skip)
                                  obtain ⟨hx42_0, hf42_0⟩ := Kd.R_celln 0 HO_8.out ((rd t263 x11_3) : Int) p42 q42
                                  replace p42 := eq_true p42
                                  replace q42 := eq_true q42
                                  have HP47 := Kd.R_putn HO_8.out ((rd t263 x11_3) : Int) t270
                                  rw [← Ny271.out] at HP47
                                  have HQ47 := Aside0.mk HP47
                                  clear HP47
                                  refine hK.out _ _ ⟨hHeld.1, hHeld.2.1, ((HB.out.cell (World.block_lt_of_cell? w _ hw268_0)).trans hw268_0), ((HB.out.cell (World.block_lt_of_cell? w _ hw268_1)).trans hw268_1), ((HB.out.cell (World.block_lt_of_cell? w _ hw268_2)).trans hw268_2)⟩ (fun hHeld => ?_)
                                  clear hK K
                                  refine norm_ (a' := ?_) ?_ ?_
                                  rotate_left
                                  · show Act.put _ (some 68) _ = _
                                    simp only [Act.put, List.setIfInBounds_toArray, List.set_cons_zero, List.set_cons_succ, i64_w, i32_w]
                                    rfl
                                  refine pure_ (i := 17) (N := some 69) (v := ?_) (a' := ?_) #[true, true, true, true, true, true, true, true, true, true, true, true, true, true, true, true, true, true, false] rfl rfl (any_of HT_.out (by kernel_rfl)) (fun _ _ _ h => h) (Or.inl ⟨by rfl, ?_⟩) ?_ ?_
                                  rotate_left
                                  · intro w'
                                    go_simp
                                    with_reducible rfl
                                  rotate_left
                                  · simp only [Act.put, List.setIfInBounds_toArray, List.set_cons_zero, List.set_cons_succ, i64_w, i32_w]
                                    rfl
                                  refine last_ (i := 18) (N := none) #[true, true, true, true, true, true, true, true, true, true, true, true, true, true, true, true, true, true, true] rfl rfl (one_of HT_.out (by kernel_rfl)) (by decide) (fun K hK => ?_)
                                  refine skip_ (w1 := ?_) (by rfl) rfl ?_ ?_
                                  rotate_left
                                  · go_simp
                                    rfl
                                  refine hK.out _ _ ?_
                                  clear hK K
                                  refine done_ (done_of HT_.out (by kernel_rfl)) ?_
                                  try go_wp2
                                  go_roundg k3
                                  case measure => have := HK1.out; have := HJ10.out; have := HK3.out; omega
                                  case rel => exact ⟨(y271), (wrap64 (x11_3 + 1)), (by first | rfl | (simp; done) | (simp [*]; done)), H', ⟨by have := HK1.out; have := HJ10.out; have := HK3.out; omega⟩, ⟨by (with_reducible repeat (first | apply Kd.R_alloc | apply Kd.R_drewN | apply Kd.R_drew)); exact Kd.R_mono (Kd.R_far (p := ⟨go42, ((rd t263 x11_3) : Int).toNat, none⟩) (Kd.R_types HO_7.out GG42.out (by decide)) (fun _ hk => hk.2) (.int .u8 t270)) (fun _ hk => hk.1)⟩, ⟨by (with_reducible repeat (first | apply Kd.R_alloc | apply Kd.R_drewN | apply Kd.R_drew)); exact HQ47.out⟩, ⟨by (with_reducible repeat (first | apply Kd.R_alloc | apply Kd.R_drewN | apply Kd.R_drew)); exact Kd.R_mono (Kd.R_far (p := ⟨go42, ((rd t263 x11_3) : Int).toNat, none⟩) (Kd.R_types HO_10.out GG42.out (by decide)) (fun _ hk => hk.2) (.int .u8 t270)) (fun _ hk => hk.1)⟩, ⟨by repeat (first | (with_reducible first | exact HB.out | apply below_alloc | apply pw_below_drewN | apply below_drew1 | refine below_set ?_ GB42.out) | exact HB.out)⟩⟩
                                · rw [if_neg c41] at H
                                  exact absurd H (by simp)
                              · rw [if_neg c40] at H
                                exact absurd H (by simp)
                            · rw [if_neg c37] at H
                              exact absurd H (by simp)
                          · rw [if_neg c36] at H
                            exact absurd H (by simp)
                        · rw [if_neg c35] at H
                          exact absurd H (by simp)
                      · rw [if_neg c34] at H
                        exact absurd H (by simp)
                    · rw [if_neg c33] at H
                      have c33b0 : decide (x11_3 < (t263.length : Int)) = false := decide_eq_false c33
                      clear c33
                      have H' := Aside0.mk H
                      clear H
                      obtain ⟨Ao48, co48, eo48⟩ := Kd.R_slice HO_10.out
                      subst eo48
                      go_wp2
                      go_roundg k3
                      case measure => have := HK1.out; have := HJ10.out; have := HK3.out; omega
                      case rel => exact ⟨(x8_3), (wrap64 (x9_1 - 1)), (by first | rfl | (simp; done) | (simp [*]; done)), H', ⟨by have := HK1.out; have := HJ10.out; have := HK3.out; omega⟩, ⟨by (with_reducible repeat (first | apply Kd.R_alloc | apply Kd.R_drewN | apply Kd.R_drew)); exact Kd.R_mono HO_7.out (fun _ hk => trivial)⟩, ⟨by (with_reducible repeat (first | apply Kd.R_alloc | apply Kd.R_drewN | apply Kd.R_drew)); exact HO_8.out⟩, ⟨by repeat (first | (with_reducible first | exact HB.out | apply below_alloc | apply pw_below_drewN | apply below_drew1) | exact HB.out)⟩⟩
          · rw [if_neg c10] at H
            have c10b0 : decide (0 ≤ x9_1) = false := decide_eq_false c10
            clear c10
            obtain rfl := Option.some.inj H
            go_wp2
            go_ret
            exact ⟨_, by first | rfl | (simp [errW_none, errW_some] <;> rfl) | (simp [*, errW_none, errW_some] <;> rfl), by (with_reducible repeat (first | apply Kd.R_alloc | apply Kd.R_drewN | apply Kd.R_drew)); exact HO_8.out, by repeat (first | (with_reducible first | exact HB.out | apply below_alloc | apply pw_below_drewN | apply below_drew1) | exact HB.out)⟩
    · rw [if_neg c6] at H
      exact absurd H (by simp)
  · rw [if_neg c5] at H
    exact absurd H (by simp)

end Go.Proofs.Ytgbickkmfjngbaa.K
