-- Laid by a program of this session (wip/gprint.py) over the kit's print of the translation; Lean checks it.
import Derived.Test.YtgbickkmfjngbaaKx0
import Derived.Test.YtgbickkmfjngbaaKx6
namespace Go.Proofs.Ytgbickkmfjngbaa.K
open Go.RowKit Go.Proofs.YtgbickkmfjngbaaW.PrintWords Go.Proofs.YtgbickkmfjngbaaW.PrintLast Go.Proofs.YtgbickkmfjngbaaG.Words
set_option linter.unusedVariables false
set_option linter.unusedSimpArgs false

/-! ### tammyref07_Kids: function 32 -/
mutual
def tammyref07_Kids.l0 : Nat → List (S38) → List Int → Int → List Int → Int → Int → Option (List Int)
  | 0, _, _, _, _, _, _ => none
  | k + 1, x0, x1, x2, x7, x8, x9 => if 0 ≤ x2 then (if x2 < (x0.length : Int) then ((tammyref07_Parts.f ((rd_T38 x0 x2).f0) ((rd_T38 x0 x2).f1) ((rd_T38 x0 x2).f2)).bind fun t158 => (if x9 < t158 then (if x7.length < 17592186044416 then (if 0 ≤ x8 then (if x8 < (x1.length : Int) then (tammyref07_Kids.l0 k x0 x1 x2 (x7 ++ [x8]) (wrap64 ((rd x1 x8) - 1)) (wrap64 (x9 + 1))) else (none)) else (none)) else (none)) else (tammyref07_Kids.l1 k x7 ([] : List Int) (wrap64 ((x7.length : Int) - 1))))) else (none)) else (none)
def tammyref07_Kids.l1 : Nat → List Int → List Int → Int → Option (List Int)
  | 0, _, _, _ => none
  | k + 1, x7, x10, x11 => if x11 ≥ 0 then (if 0 ≤ x11 then (if x11 < (x7.length : Int) then (if x10.length < 17592186044416 then (tammyref07_Kids.l1 k x7 (x10 ++ [rd x7 x11]) (wrap64 (x11 - 1))) else (none)) else (none)) else (none)) else (some x10)
end
def tammyref07_Kids.f (k : Nat) (l0 : List (S38)) (l1 : List Int) (a2 : Int) : Option (List Int) := tammyref07_Kids.l0 k l0 l1 a2 ([] : List Int) (wrap64 (a2 - 1)) 0
theorem tammyref07_Kids.mono_l : ∀ k, (∀ y0 y1 y2 y3 y4 y5, LeO (tammyref07_Kids.l0 k y0 y1 y2 y3 y4 y5) (tammyref07_Kids.l0 (k + 1) y0 y1 y2 y3 y4 y5)) ∧ (∀ y0 y1 y2, LeO (tammyref07_Kids.l1 k y0 y1 y2) (tammyref07_Kids.l1 (k + 1) y0 y1 y2))
  | 0 => ⟨fun _ _ _ _ _ _ r h => by simp [tammyref07_Kids.l0] at h, fun _ _ _ r h => by simp [tammyref07_Kids.l1] at h⟩
  | k + 1 => by
    obtain ⟨ih0, ih1⟩ := tammyref07_Kids.mono_l k
    refine ⟨?_, ?_⟩
    · intro y0 y1 y2 y3 y4 y5
      unfold tammyref07_Kids.l0
      repeat' first
      | (with_reducible exact ih0 _ _ _ _ _ _)
      | (with_reducible exact ih1 _ _ _)
      | (with_reducible exact LeO.refl _)
      | (with_reducible exact LeO.none _)
      | (with_reducible refine LeO.ite ?_ ?_)
      | (with_reducible refine LeO.bind ?_ (fun _ => ?_))
      | exact ih0 _ _ _ _ _ _
      | exact ih1 _ _ _
      | exact LeO.none _
      | refine LeO.ite ?_ ?_
      | refine LeO.bind ?_ (fun _ => ?_)
    · intro y0 y1 y2
      unfold tammyref07_Kids.l1
      repeat' first
      | (with_reducible exact ih0 _ _ _ _ _ _)
      | (with_reducible exact ih1 _ _ _)
      | (with_reducible exact LeO.refl _)
      | (with_reducible exact LeO.none _)
      | (with_reducible refine LeO.ite ?_ ?_)
      | (with_reducible refine LeO.bind ?_ (fun _ => ?_))
      | exact ih0 _ _ _ _ _ _
      | exact ih1 _ _ _
      | exact LeO.none _
      | refine LeO.ite ?_ ?_
      | refine LeO.bind ?_ (fun _ => ?_)
theorem tammyref07_Kids.mono : ∀ a0 a1 a2 k, LeO (tammyref07_Kids.f k a0 a1 a2) (tammyref07_Kids.f (k + 1) a0 a1 a2) := by
  intro a0 a1 a2 k
  obtain ⟨ih0, ih1⟩ := tammyref07_Kids.mono_l k
  unfold tammyref07_Kids.f
  repeat' first
      | (with_reducible exact ih0 _ _ _ _ _ _)
      | (with_reducible exact ih1 _ _ _)
      | (with_reducible exact LeO.refl _)
      | (with_reducible exact LeO.none _)
      | (with_reducible refine LeO.ite ?_ ?_)
      | (with_reducible refine LeO.bind ?_ (fun _ => ?_))
      | exact ih0 _ _ _ _ _ _
      | exact ih1 _ _ _
      | exact LeO.none _
      | refine LeO.ite ?_ ?_
      | refine LeO.bind ?_ (fun _ => ?_)
set_option maxHeartbeats 8000000 in
set_option maxRecDepth 100000 in
theorem tammyref07_Kids.calls (k : Nat) (A0 : Option Addr) (c0 : Nat) (l0 : List (S38)) (A1 : Option Addr) (c1 : Nat) (l1 : List Int) (a2 : Int) (r : List Int) (w : World) (hr0 : Kd.C k38 w A0 l0.length l0) (hc0 : l0.length ≤ c0) (hr1 : Kd.C (Kd.int .i64) w A1 l1.length l1) (hc1 : l1.length ≤ c1) (h : tammyref07_Kids.f k l0 l1 a2 = some r) :
    Calls Try.prog 32 #[.slice A0 l0.length c0, .slice A1 l1.length c1, .int .i64 a2] w fun e w' => ∃ v0_ : Value, e = .returned (v0_) ∧ Kd.R (Kd.int .i64) 3 w' w.heap.size (fun _ => True) v0_ r ∧ Below w.heap.size w w' := by
  have hu38 := Try.underlying38
  have HR0 := Aside0.mk hr0
  have HC0 := Aside0.mk hc0
  clear hr0 hc0
  have HR1 := Aside0.mk hr1
  have HC1 := Aside0.mk hc1
  clear hr1 hc1
  have HB := Aside0.mk (Below.refl w.heap.size w)
  have H : (tammyref07_Kids.l0 k l0 l1 a2 ([] : List Int) (wrap64 (a2 - 1)) 0) = some r := h
  clear h
  have H' := Aside0.mk H
  clear H
  go_enter Try.func32, Try.ntmps32
  go_wp2
  go_loopg [7, 8, 9] k (fun kq v7 v8 v9 w' => ∃ (x7_1 : List Int) (x8_1 : Int) (x9_1 : Int), v8 = .int .i64 x8_1 ∧ v9 = .int .i64 x9_1 ∧ Aside0 (tammyref07_Kids.l0 kq l0 l1 a2 x7_1 x8_1 x9_1 = some r) ∧ Aside0 (kq ≤ k) ∧ Aside0 (Kd.R (Kd.int .i64) 3 w' w.heap.size (fun _ => True) v7 x7_1) ∧ Aside0 (Below w.heap.size w w'))
  case atStart => exact ⟨(([] : List Int)), (wrap64 (a2 - 1)), (0), (by first | rfl | (simp; done) | (simp [*]; done)), (by first | rfl | (simp; done) | (simp [*]; done)), H', ⟨Nat.le_refl _⟩, ⟨by first | exact Kd.R_nil _ _ _ _ _ | exact Kd.N_nil _ _ _ _ _ | exact Kd.V_nil _ _ _ _ _ | exact Kd.Q_nil _ _ _ _ _ | exact Kd.S_nil _ _ _ _ _⟩, ⟨by repeat (first | (with_reducible first | exact HB.out | apply below_alloc | apply pw_below_drewN | apply below_drew1) | exact HB.out)⟩⟩
  case round =>
    clear H'
    try clear c1
    try clear p2
    try clear c3
    obtain ⟨x7_1, x8_1, x9_1, rfl, rfl, HA, HK1, HO_7, HB⟩ := hrel
    cases gk with
    | zero => exact absurd HA.out (by simp [tammyref07_Kids.l0])
    | succ k1 =>
      have H := HA.out
      clear HA
      simp only [tammyref07_Kids.l0] at H
      by_cases c4 : 0 ≤ a2
      · rw [if_pos c4] at H
        have c4b0 : decide (0 ≤ a2) = true := decide_eq_true c4
        clear c4
        by_cases c5 : a2 < (l0.length : Int)
        · rw [if_pos c5] at H
          have c5b0 : decide (a2 < (l0.length : Int)) = true := decide_eq_true c5
          clear c5
          replace H := Option.bind_eq_some_iff.mp H
          obtain ⟨t158, A60, H⟩ := H
          replace H : (if x9_1 < t158 then (if x7_1.length < 17592186044416 then (if 0 ≤ x8_1 then (if x8_1 < (l1.length : Int) then (tammyref07_Kids.l0 k1 l0 l1 a2 (x7_1 ++ [x8_1]) (wrap64 ((rd l1 x8_1) - 1)) (wrap64 (x9_1 + 1))) else (none)) else (none)) else (none)) else (tammyref07_Kids.l1 k1 x7_1 ([] : List Int) (wrap64 ((x7_1.length : Int) - 1)))) = some r := H
          have A6 := Aside0.mk A60
          clear A60
          by_cases c7 : x9_1 < t158
          · rw [if_pos c7] at H
            have c7b0 : decide (x9_1 < t158) = true := decide_eq_true c7
            clear c7
            by_cases c8 : x7_1.length < 17592186044416
            · rw [if_pos c8] at H
              have LMc8 := Aside0.mk c8
              clear c8
              obtain ⟨y159, hy159⟩ : ∃ y_ : List Int, y_ = (x7_1 ++ [x8_1]) := ⟨_, rfl⟩
              replace H : (if 0 ≤ x8_1 then (if x8_1 < (l1.length : Int) then (tammyref07_Kids.l0 k1 l0 l1 a2 y159 (wrap64 ((rd l1 x8_1) - 1)) (wrap64 (x9_1 + 1))) else (none)) else (none)) = some r := by first | (rw [hy159]; with_reducible exact H) | (have H2_ := (Option.bind_some _ _).symm.trans H; rw [hy159]; with_reducible exact H2_) | (have H2_ := (Option.bind_some _ _).symm.trans H; with_reducible exact H2_) | with_reducible exact H | (rw [hy159]; exact H) | exact H
              have Ny159 := Aside0.mk hy159
              clear hy159
              by_cases c9 : 0 ≤ x8_1
              · rw [if_pos c9] at H
                have c9b0 : decide (0 ≤ x8_1) = true := decide_eq_true c9
                clear c9
                by_cases c10 : x8_1 < (l1.length : Int)
                · rw [if_pos c10] at H
                  have c10b0 : decide (x8_1 < (l1.length : Int)) = true := decide_eq_true c10
                  clear c10
                  have H' := Aside0.mk H
                  clear H
                  have p157 : 0 ≤ (a2 : Int) := of_decide_eq_true (by first | (with_reducible assumption) | assumption)
                  have q157 : a2 < (l0.length : Int) := of_decide_eq_true (by first | (with_reducible assumption) | assumption)
                  obtain ⟨ad157, e157, hx157_0, hx157_1, hx157_2⟩ := at_T38 HR0.out a2 p157 q157
                  cases e157
                  replace hx157_0 := (HB.out.cell (World.block_lt_of_cell? w _ hx157_0)).trans hx157_0
                  replace hx157_1 := (HB.out.cell (World.block_lt_of_cell? w _ hx157_1)).trans hx157_1
                  replace hx157_2 := (HB.out.cell (World.block_lt_of_cell? w _ hx157_2)).trans hx157_2
                  replace p157 := eq_true p157
                  replace q157 := eq_true q157
                  go_wp2_with (first | ((with_reducible refine gate_callee (f := 37) rfl ?_); refine goesL_ (some 19) rfl rfl Try.func37 (by kernel_rfl) rfl #[.agg #[.int .i64 ((rd_T38 l0 a2).f0), .string ((rd_T38 l0 a2).f1), .int .i64 ((rd_T38 l0 a2).f2)]] rfl (by (try simp only [List.map_toArray, List.map_cons, List.map_nil]); first | done | rfl | (simp only [List.length_drop, List.length_take]; rfl)) ?_; (with_reducible refine (tammyref07_Parts.calls ((rd_T38 l0 a2).f0) ((rd_T38 l0 a2).f1) ((rd_T38 l0 a2).f2) t158 _ A6.out).mono ?_); rintro e w11 ⟨rfl, hb⟩; refine ⟨_, rfl, ?_⟩; have n0_ := Aside0.mk (Kd.R_below (by (with_reducible repeat (first | apply Kd.R_alloc | apply Kd.R_drewN | apply Kd.R_drew)); exact HO_7.out) hb); have n1_ := Aside0.mk (below_step (by repeat (first | (with_reducible first | exact HB.out | apply below_alloc | apply pw_below_drewN | apply below_drew1) | exact HB.out)) hb); clear HO_7; clear HB; have HO_7 := n0_; have HB := n1_; clear n0_ n1_; (try clear hb); (try clear hb2); (try clear hk); (try clear hi)) | ((with_reducible refine gate_builtin (b := .append) (xs := #[.tmp 23, .tmp 25]) rfl ?_); at_builtin; refine Kd.R_append (Kd.int .i64) (w0 := w) w.heap.size rfl (.tmp 23) (.tmp 25) 41 3 (.int .i64 0) 8 rfl Try.underlying41 info3 rfl (by decide) (by omega) u7 x7_1 x8_1 [.int .i64 x8_1] (fun _ => True) (fun _ => False) rfl rfl ?aP (fun _ hk => hk.elim) ?aF ?aO ?aB ?aS ?aL ?_; (case aP => exact rfl); (case aB => exact (by repeat (first | (with_reducible first | exact HB.out | apply below_alloc | apply pw_below_drewN | apply below_drew1) | exact HB.out))); (case aF => exact (fun _ _ => trivial)); (case aO => exact (by (with_reducible repeat (first | apply Kd.R_alloc | apply Kd.R_drewN | apply Kd.R_drew)); exact HO_7.out)); (case aS => exact (below_size (by repeat (first | (with_reducible first | exact HB.out | apply below_alloc | apply pw_below_drewN | apply below_drew1) | exact HB.out)))); (case aL => have := LMc8.out; omega); intro v160 w12 ho hb hg hat; rw [← Ny159.out] at ho; have n0_ := Aside0.mk (hb); have n1_ := Aside0.mk (ho); clear HB; clear HO_7; have HB := n0_; have HO161 := n1_; clear n0_ n1_; clear ho hb hg hat; have p162 : 0 ≤ (x8_1 : Int) := of_decide_eq_true (by first | (with_reducible assumption) | assumption); have q162 : x8_1 < (l1.length : Int) := of_decide_eq_true (by first | (with_reducible assumption) | assumption); obtain ⟨ad162, e162, hx162_0⟩ := Kd.at_int HR1.out x8_1 p162 q162; cases e162; replace hx162_0 := (HB.out.cell (World.block_lt_of_cell? w _ hx162_0)).trans hx162_0; replace p162 := eq_true p162; replace q162 := eq_true q162))
                  go_roundg k1
                  case measure => have := HK1.out; omega
                  case rel => exact ⟨(y159), (wrap64 ((rd l1 x8_1) - 1)), (wrap64 (x9_1 + 1)), (by first | rfl | (simp; done) | (simp [*]; done)), (by first | rfl | (simp; done) | (simp [*]; done)), H', ⟨by have := HK1.out; omega⟩, ⟨by (with_reducible repeat (first | apply Kd.R_alloc | apply Kd.R_drewN | apply Kd.R_drew)); exact HO161.out⟩, ⟨by repeat (first | (with_reducible first | exact HB.out | apply below_alloc | apply pw_below_drewN | apply below_drew1) | exact HB.out)⟩⟩
                · rw [if_neg c10] at H
                  exact absurd H (by simp)
              · rw [if_neg c9] at H
                exact absurd H (by simp)
            · rw [if_neg c8] at H
              exact absurd H (by simp)
          · rw [if_neg c7] at H
            have c7b0 : decide (x9_1 < t158) = false := decide_eq_false c7
            clear c7
            have H' := Aside0.mk H
            clear H
            have p157 : 0 ≤ (a2 : Int) := of_decide_eq_true (by first | (with_reducible assumption) | assumption)
            have q157 : a2 < (l0.length : Int) := of_decide_eq_true (by first | (with_reducible assumption) | assumption)
            obtain ⟨ad157, e157, hx157_0, hx157_1, hx157_2⟩ := at_T38 HR0.out a2 p157 q157
            cases e157
            replace hx157_0 := (HB.out.cell (World.block_lt_of_cell? w _ hx157_0)).trans hx157_0
            replace hx157_1 := (HB.out.cell (World.block_lt_of_cell? w _ hx157_1)).trans hx157_1
            replace hx157_2 := (HB.out.cell (World.block_lt_of_cell? w _ hx157_2)).trans hx157_2
            replace p157 := eq_true p157
            replace q157 := eq_true q157
            go_wp2_with (first | ((with_reducible refine gate_callee (f := 37) rfl ?_); refine goesL_ (some 19) rfl rfl Try.func37 (by kernel_rfl) rfl #[.agg #[.int .i64 ((rd_T38 l0 a2).f0), .string ((rd_T38 l0 a2).f1), .int .i64 ((rd_T38 l0 a2).f2)]] rfl (by (try simp only [List.map_toArray, List.map_cons, List.map_nil]); first | done | rfl | (simp only [List.length_drop, List.length_take]; rfl)) ?_; (with_reducible refine (tammyref07_Parts.calls ((rd_T38 l0 a2).f0) ((rd_T38 l0 a2).f1) ((rd_T38 l0 a2).f2) t158 _ A6.out).mono ?_); rintro e w13 ⟨rfl, hb⟩; refine ⟨_, rfl, ?_⟩; have n0_ := Aside0.mk (Kd.R_below (by (with_reducible repeat (first | apply Kd.R_alloc | apply Kd.R_drewN | apply Kd.R_drew)); exact HO_7.out) hb); have n1_ := Aside0.mk (below_step (by repeat (first | (with_reducible first | exact HB.out | apply below_alloc | apply pw_below_drewN | apply below_drew1) | exact HB.out)) hb); clear HO_7; clear HB; have HO_7 := n0_; have HB := n1_; clear n0_ n1_; (try clear hb); (try clear hb2); (try clear hk); (try clear hi); obtain ⟨Ao14, co14, eo14⟩ := Kd.R_slice HO_7.out; subst eo14))
            go_loopg [10, 11] k1 (fun kq v10 v11 w' => ∃ (x10_2 : List Int) (x11_2 : Int), v11 = .int .i64 x11_2 ∧ Aside0 (tammyref07_Kids.l1 kq x7_1 x10_2 x11_2 = some r) ∧ Aside0 (kq ≤ k1) ∧ Aside0 (Kd.R (Kd.int .i64) 3 w' w.heap.size (fun k_ => some k_ ≠ (v10 : Value).ownBlock) (.slice Ao14 x7_1.length co14) x7_1) ∧ Aside0 (Kd.R (Kd.int .i64) 3 w' w.heap.size (fun k_ => some k_ ≠ ((.slice Ao14 x7_1.length co14) : Value).ownBlock) v10 x10_2) ∧ Aside0 (Below w.heap.size w w'))
            case atStart => exact ⟨(([] : List Int)), (wrap64 ((x7_1.length : Int) - 1)), (by first | rfl | (simp; done) | (simp [*]; done)), H', ⟨Nat.le_refl _⟩, ⟨by (with_reducible repeat (first | apply Kd.R_alloc | apply Kd.R_drewN | apply Kd.R_drew)); exact Kd.R_mono HO_7.out (fun _ hk => (by simp [Value.ownBlock]))⟩, ⟨by first | exact Kd.R_nil _ _ _ _ _ | exact Kd.N_nil _ _ _ _ _ | exact Kd.V_nil _ _ _ _ _ | exact Kd.Q_nil _ _ _ _ _ | exact Kd.S_nil _ _ _ _ _⟩, ⟨by repeat (first | (with_reducible first | exact HB.out | apply below_alloc | apply pw_below_drewN | apply below_drew1) | exact HB.out)⟩⟩
            case round =>
              clear H'
              try clear c1
              try clear p1
              try clear q1
              try clear hx1
              try clear p2
              try clear c3
              try clear c4
              try clear c4b0
              try clear c5
              try clear c5b0
              try clear p6
              try clear c7
              try clear c7b0
              try clear c8
              try clear c9
              try clear c9b0
              try clear c10
              try clear c10b0
              try clear hx157_0
              try clear hx157_1
              try clear hx157_2
              try clear hx162_0
              try clear p157
              try clear p162
              try clear p2
              try clear q157
              try clear q162
              obtain ⟨x10_2, x11_2, rfl, HA, HK2, HO_7, HO_10, HB⟩ := hrel
              cases gk with
              | zero => exact absurd HA.out (by simp [tammyref07_Kids.l1])
              | succ k2 =>
                have H := HA.out
                clear HA
                simp only [tammyref07_Kids.l1] at H
                by_cases c15 : x11_2 ≥ 0
                · rw [if_pos c15] at H
                  have c15b0 : decide (0 ≤ x11_2) = true := decide_eq_true c15
                  clear c15
                  by_cases c16 : 0 ≤ x11_2
                  · rw [if_pos c16] at H
                    have c16b0 : decide (0 ≤ x11_2) = true := decide_eq_true c16
                    clear c16
                    by_cases c17 : x11_2 < (x7_1.length : Int)
                    · rw [if_pos c17] at H
                      have c17b0 : decide (x11_2 < (x7_1.length : Int)) = true := decide_eq_true c17
                      clear c17
                      by_cases c18 : x10_2.length < 17592186044416
                      · rw [if_pos c18] at H
                        have LMc18 := Aside0.mk c18
                        clear c18
                        obtain ⟨y164, hy164⟩ : ∃ y_ : List Int, y_ = (x10_2 ++ [rd x7_1 x11_2]) := ⟨_, rfl⟩
                        replace H : (tammyref07_Kids.l1 k2 x7_1 y164 (wrap64 (x11_2 - 1))) = some r := by first | (rw [hy164]; with_reducible exact H) | (have H2_ := (Option.bind_some _ _).symm.trans H; rw [hy164]; with_reducible exact H2_) | (have H2_ := (Option.bind_some _ _).symm.trans H; with_reducible exact H2_) | with_reducible exact H | (rw [hy164]; exact H) | exact H
                        have Ny164 := Aside0.mk hy164
                        clear hy164
                        have H' := Aside0.mk H
                        clear H
                        have p163 : 0 ≤ (x11_2 : Int) := of_decide_eq_true (by first | (with_reducible assumption) | assumption)
                        have q163 : x11_2 < (x7_1.length : Int) := of_decide_eq_true (by first | (with_reducible assumption) | assumption)
                        obtain ⟨ad163, e163, hx163_0⟩ := Kd.at_int (Kd.R_reads' HO_7.out).2.2 x11_2 p163 q163
                        cases e163
                        replace p163 := eq_true p163
                        replace q163 := eq_true q163
                        go_wp2_with (first | ((with_reducible refine gate_builtin (b := .append) (xs := #[.tmp 39, .tmp 44]) rfl ?_); at_builtin; refine Kd.R_append (Kd.int .i64) (w0 := w) w.heap.size rfl (.tmp 39) (.tmp 44) 41 3 (.int .i64 0) 8 rfl Try.underlying41 info3 rfl (by decide) (by omega) u10 x10_2 (rd x7_1 x11_2) [.int .i64 (rd x7_1 x11_2)] (fun k_ => some k_ ≠ (.slice (some ad163) x7_1.length co14 : Value).ownBlock) (fun _ => False) rfl rfl ?aP (fun _ hk => hk.elim) ?aF ?aO ?aB ?aS ?aL ?_; (case aP => exact rfl); (case aB => exact (by repeat (first | (with_reducible first | exact HB.out | apply below_alloc | apply pw_below_drewN | apply below_drew1) | exact HB.out))); (case aF => exact (fun k_ hk => Kd.fresh' (Kd.R_lt (by (with_reducible repeat (first | apply Kd.R_alloc | apply Kd.R_drewN | apply Kd.R_drew)); exact HO_7.out)) k_ hk)); (case aO => exact (by (with_reducible repeat (first | apply Kd.R_alloc | apply Kd.R_drewN | apply Kd.R_drew)); exact HO_10.out)); (case aS => exact (below_size (by repeat (first | (with_reducible first | exact HB.out | apply below_alloc | apply pw_below_drewN | apply below_drew1) | exact HB.out)))); (case aL => have := LMc18.out; omega); intro v165 w19 ho hb hg hat; rw [← Ny164.out] at ho; have n0_ := Aside0.mk (Kd.R_after (ok := (fun _ => True)) (by (with_reducible repeat (first | apply Kd.R_alloc | apply Kd.R_drewN | apply Kd.R_drew)); exact Kd.R_mono HO_7.out (fun _ hk => ⟨trivial, hk⟩)) hg hat); have n1_ := Aside0.mk (hb); have n2_ := Aside0.mk (ho); clear HO_7; clear HB; clear HO_10; have HO_7 := n0_; have HB := n1_; have HO166 := n2_; clear n0_ n1_ n2_; clear ho hb hg hat))
                        go_roundg k2
                        case measure => have := HK1.out; have := HK2.out; omega
                        case rel => exact ⟨(y164), (wrap64 (x11_2 - 1)), (by first | rfl | (simp; done) | (simp [*]; done)), H', ⟨by have := HK1.out; have := HK2.out; omega⟩, ⟨by (with_reducible repeat (first | apply Kd.R_alloc | apply Kd.R_drewN | apply Kd.R_drew)); exact Kd.R_mono HO_7.out (fun _ hk => hk.2)⟩, ⟨by (with_reducible repeat (first | apply Kd.R_alloc | apply Kd.R_drewN | apply Kd.R_drew)); exact HO166.out⟩, ⟨by repeat (first | (with_reducible first | exact HB.out | apply below_alloc | apply pw_below_drewN | apply below_drew1) | exact HB.out)⟩⟩
                      · rw [if_neg c18] at H
                        exact absurd H (by simp)
                    · rw [if_neg c17] at H
                      exact absurd H (by simp)
                  · rw [if_neg c16] at H
                    exact absurd H (by simp)
                · rw [if_neg c15] at H
                  have c15b0 : decide (0 ≤ x11_2) = false := decide_eq_false c15
                  clear c15
                  obtain rfl := Option.some.inj H
                  go_wp2
                  go_ret
                  exact ⟨_, by first | rfl | (simp [errW_none, errW_some] <;> rfl) | (simp [*, errW_none, errW_some] <;> rfl), by (with_reducible repeat (first | apply Kd.R_alloc | apply Kd.R_drewN | apply Kd.R_drew)); exact Kd.R_mono HO_10.out (fun _ hk => trivial), by repeat (first | (with_reducible first | exact HB.out | apply below_alloc | apply pw_below_drewN | apply below_drew1) | exact HB.out)⟩
        · rw [if_neg c5] at H
          exact absurd H (by simp)
      · rw [if_neg c4] at H
        exact absurd H (by simp)

/-! ### tammyref07_side: function 47 -/
def tammyref07_side.f (l0 : List (S38)) (l1 : List ByteArray) (a2 : Int) (a3 : Int) (a4 : Bool) : Option (ByteArray) := if 0 ≤ a2 then (if a2 < (l0.length : Int) then (if ((rd_T38 l0 a2).f0) = 4 then (if a4 = true then (if ((rd_T38 l0 a2).f0) = a3 then (if a2 < (l1.length : Int) then (some (rdOf ByteArray.empty l1 a2)) else (none)) else (if a2 < (l1.length : Int) then (if 1 + (rdOf ByteArray.empty l1 a2).size ≤ 9223372036854775807 then (if ((⟨#[40]⟩ : ByteArray) ++ (rdOf ByteArray.empty l1 a2)).size + 1 ≤ 9223372036854775807 then (some (((⟨#[40]⟩ : ByteArray) ++ (rdOf ByteArray.empty l1 a2)) ++ (⟨#[41]⟩ : ByteArray))) else (none)) else (none)) else (none))) else (if a2 < (l1.length : Int) then (if 1 + (rdOf ByteArray.empty l1 a2).size ≤ 9223372036854775807 then (if ((⟨#[40]⟩ : ByteArray) ++ (rdOf ByteArray.empty l1 a2)).size + 1 ≤ 9223372036854775807 then (some (((⟨#[40]⟩ : ByteArray) ++ (rdOf ByteArray.empty l1 a2)) ++ (⟨#[41]⟩ : ByteArray))) else (none)) else (none)) else (none))) else (if ((rd_T38 l0 a2).f0) = 5 then (if a4 = true then (if ((rd_T38 l0 a2).f0) = a3 then (if a2 < (l1.length : Int) then (some (rdOf ByteArray.empty l1 a2)) else (none)) else (if a2 < (l1.length : Int) then (if 1 + (rdOf ByteArray.empty l1 a2).size ≤ 9223372036854775807 then (if ((⟨#[40]⟩ : ByteArray) ++ (rdOf ByteArray.empty l1 a2)).size + 1 ≤ 9223372036854775807 then (some (((⟨#[40]⟩ : ByteArray) ++ (rdOf ByteArray.empty l1 a2)) ++ (⟨#[41]⟩ : ByteArray))) else (none)) else (none)) else (none))) else (if a2 < (l1.length : Int) then (if 1 + (rdOf ByteArray.empty l1 a2).size ≤ 9223372036854775807 then (if ((⟨#[40]⟩ : ByteArray) ++ (rdOf ByteArray.empty l1 a2)).size + 1 ≤ 9223372036854775807 then (some (((⟨#[40]⟩ : ByteArray) ++ (rdOf ByteArray.empty l1 a2)) ++ (⟨#[41]⟩ : ByteArray))) else (none)) else (none)) else (none))) else (if a2 < (l1.length : Int) then (some (rdOf ByteArray.empty l1 a2)) else (none)))) else (none)) else (none)
set_option maxHeartbeats 8000000 in
set_option maxRecDepth 100000 in
theorem tammyref07_side.calls (A0 : Option Addr) (c0 : Nat) (l0 : List (S38)) (A1 : Option Addr) (c1 : Nat) (l1 : List ByteArray) (a2 : Int) (a3 : Int) (a4 : Bool) (r : ByteArray) (w : World) (hr0 : Kd.C k38 w A0 l0.length l0) (hc0 : l0.length ≤ c0) (hr1 : Kd.C Kd.string w A1 l1.length l1) (hc1 : l1.length ≤ c1) (h : tammyref07_side.f l0 l1 a2 a3 a4 = some r) :
    Calls Try.prog 47 #[.slice A0 l0.length c0, .slice A1 l1.length c1, .int .i64 a2, .int .i64 a3, .bool a4] w fun e w' => e = .returned (.string r) ∧ Drawn0 w w' := by
  have HR0 := Aside0.mk hr0
  have HC0 := Aside0.mk hc0
  clear hr0 hc0
  have HR1 := Aside0.mk hr1
  have HC1 := Aside0.mk hc1
  clear hr1 hc1
  have H : (if 0 ≤ a2 then (if a2 < (l0.length : Int) then (if ((rd_T38 l0 a2).f0) = 4 then (if a4 = true then (if ((rd_T38 l0 a2).f0) = a3 then (if a2 < (l1.length : Int) then (some (rdOf ByteArray.empty l1 a2)) else (none)) else (if a2 < (l1.length : Int) then (if 1 + (rdOf ByteArray.empty l1 a2).size ≤ 9223372036854775807 then (if ((⟨#[40]⟩ : ByteArray) ++ (rdOf ByteArray.empty l1 a2)).size + 1 ≤ 9223372036854775807 then (some (((⟨#[40]⟩ : ByteArray) ++ (rdOf ByteArray.empty l1 a2)) ++ (⟨#[41]⟩ : ByteArray))) else (none)) else (none)) else (none))) else (if a2 < (l1.length : Int) then (if 1 + (rdOf ByteArray.empty l1 a2).size ≤ 9223372036854775807 then (if ((⟨#[40]⟩ : ByteArray) ++ (rdOf ByteArray.empty l1 a2)).size + 1 ≤ 9223372036854775807 then (some (((⟨#[40]⟩ : ByteArray) ++ (rdOf ByteArray.empty l1 a2)) ++ (⟨#[41]⟩ : ByteArray))) else (none)) else (none)) else (none))) else (if ((rd_T38 l0 a2).f0) = 5 then (if a4 = true then (if ((rd_T38 l0 a2).f0) = a3 then (if a2 < (l1.length : Int) then (some (rdOf ByteArray.empty l1 a2)) else (none)) else (if a2 < (l1.length : Int) then (if 1 + (rdOf ByteArray.empty l1 a2).size ≤ 9223372036854775807 then (if ((⟨#[40]⟩ : ByteArray) ++ (rdOf ByteArray.empty l1 a2)).size + 1 ≤ 9223372036854775807 then (some (((⟨#[40]⟩ : ByteArray) ++ (rdOf ByteArray.empty l1 a2)) ++ (⟨#[41]⟩ : ByteArray))) else (none)) else (none)) else (none))) else (if a2 < (l1.length : Int) then (if 1 + (rdOf ByteArray.empty l1 a2).size ≤ 9223372036854775807 then (if ((⟨#[40]⟩ : ByteArray) ++ (rdOf ByteArray.empty l1 a2)).size + 1 ≤ 9223372036854775807 then (some (((⟨#[40]⟩ : ByteArray) ++ (rdOf ByteArray.empty l1 a2)) ++ (⟨#[41]⟩ : ByteArray))) else (none)) else (none)) else (none))) else (if a2 < (l1.length : Int) then (some (rdOf ByteArray.empty l1 a2)) else (none)))) else (none)) else (none)) = some r := h
  clear h
  by_cases c6 : 0 ≤ a2
  · rw [if_pos c6] at H
    have c6b0 : decide (0 ≤ a2) = true := decide_eq_true c6
    clear c6
    by_cases c7 : a2 < (l0.length : Int)
    · rw [if_pos c7] at H
      have c7b0 : decide (a2 < (l0.length : Int)) = true := decide_eq_true c7
      clear c7
      by_cases c8 : ((rd_T38 l0 a2).f0) = 4
      · rw [if_pos c8] at H
        have c8b0 : (((rd_T38 l0 a2).f0) == 4) = true := beq_iff_eq.mpr c8
        have c8b1 : (((rd_T38 l0 a2).f0) != 4) = false := bne_eq_false_iff_eq.mpr c8
        clear c8
        by_cases c9 : a4 = true
        · subst c9
          have H1 : (if ((rd_T38 l0 a2).f0) = a3 then (if a2 < (l1.length : Int) then (some (rdOf ByteArray.empty l1 a2)) else (none)) else (if a2 < (l1.length : Int) then (if 1 + (rdOf ByteArray.empty l1 a2).size ≤ 9223372036854775807 then (if ((⟨#[40]⟩ : ByteArray) ++ (rdOf ByteArray.empty l1 a2)).size + 1 ≤ 9223372036854775807 then (some (((⟨#[40]⟩ : ByteArray) ++ (rdOf ByteArray.empty l1 a2)) ++ (⟨#[41]⟩ : ByteArray))) else (none)) else (none)) else (none))) = some r := by rw [if_pos rfl] at H; exact H
          clear H
          have H := H1
          clear H1
          by_cases c10 : ((rd_T38 l0 a2).f0) = a3
          · rw [if_pos c10] at H
            have c10b0 : (((rd_T38 l0 a2).f0) == a3) = true := beq_iff_eq.mpr c10
            have c10b1 : (((rd_T38 l0 a2).f0) != a3) = false := bne_eq_false_iff_eq.mpr c10
            clear c10
            by_cases c11 : a2 < (l1.length : Int)
            · rw [if_pos c11] at H
              have c11b0 : decide (a2 < (l1.length : Int)) = true := decide_eq_true c11
              clear c11
              obtain rfl := Option.some.inj H
              have p167 : 0 ≤ (a2 : Int) := of_decide_eq_true (by first | (with_reducible assumption) | assumption)
              have q167 : a2 < (l0.length : Int) := of_decide_eq_true (by first | (with_reducible assumption) | assumption)
              obtain ⟨ad167, e167, hx167_0, hx167_1, hx167_2⟩ := at_T38 HR0.out a2 p167 q167
              cases e167
              replace p167 := eq_true p167
              replace q167 := eq_true q167
              have p168 : 0 ≤ (a2 : Int) := of_decide_eq_true (by first | (with_reducible assumption) | assumption)
              have q168 : a2 < (l0.length : Int) := of_decide_eq_true (by first | (with_reducible assumption) | assumption)
              obtain ⟨ad168, e168, hx168_0, hx168_1, hx168_2⟩ := at_T38 HR0.out a2 p168 q168
              obtain rfl : ad167 = ad168 := (by injection e168)
              replace p168 := eq_true p168
              replace q168 := eq_true q168
              have p169 : 0 ≤ (a2 : Int) := of_decide_eq_true (by first | (with_reducible assumption) | assumption)
              have q169 : a2 < (l1.length : Int) := of_decide_eq_true (by first | (with_reducible assumption) | assumption)
              obtain ⟨ad169, e169, hx169_0⟩ := Kd.at_string HR1.out a2 p169 q169
              cases e169
              replace p169 := eq_true p169
              replace q169 := eq_true q169
              go_enter Try.func47, Try.ntmps47
              go_wp2
              go_ret
              exact ⟨by first | rfl | (simp; done) | (simp [*]; done), by repeat (first | exact Drawn0.refl _ | apply Drawn0.step)⟩
            · rw [if_neg c11] at H
              exact absurd H (by simp)
          · rw [if_neg c10] at H
            have c10b0 : (((rd_T38 l0 a2).f0) == a3) = false := beq_eq_false_iff_ne.mpr c10
            have c10b1 : (((rd_T38 l0 a2).f0) != a3) = true := bne_iff_ne.mpr c10
            by_cases c12 : a2 < (l1.length : Int)
            · rw [if_pos c12] at H
              have c12b0 : decide (a2 < (l1.length : Int)) = true := decide_eq_true c12
              clear c12
              by_cases c13 : 1 + (rdOf ByteArray.empty l1 a2).size ≤ 9223372036854775807
              · rw [if_pos c13] at H
                have c13b0 := eq_true c13
                have c13b1 : decide (1 + (rdOf ByteArray.empty l1 a2).size ≤ 9223372036854775807) = true := decide_eq_true c13
                try have c13b2 : (9223372036854775807 < 1 + (rdOf ByteArray.empty l1 a2).size) = False := eq_false (Nat.not_lt.2 c13)
                by_cases c14 : ((⟨#[40]⟩ : ByteArray) ++ (rdOf ByteArray.empty l1 a2)).size + 1 ≤ 9223372036854775807
                · rw [if_pos c14] at H
                  have c14b0 := eq_true c14
                  have c14b1 : decide (((⟨#[40]⟩ : ByteArray) ++ (rdOf ByteArray.empty l1 a2)).size + 1 ≤ 9223372036854775807) = true := decide_eq_true c14
                  try have c14b2 : (9223372036854775807 < ((⟨#[40]⟩ : ByteArray) ++ (rdOf ByteArray.empty l1 a2)).size + 1) = False := eq_false (Nat.not_lt.2 c14)
                  try have c14b4 := c14b2
                  try simp only [ByteArray.size_append, show (⟨#[40]⟩ : ByteArray).size = 1 from rfl] at c14b4
                  obtain rfl := Option.some.inj H
                  have p167 : 0 ≤ (a2 : Int) := of_decide_eq_true (by first | (with_reducible assumption) | assumption)
                  have q167 : a2 < (l0.length : Int) := of_decide_eq_true (by first | (with_reducible assumption) | assumption)
                  obtain ⟨ad167, e167, hx167_0, hx167_1, hx167_2⟩ := at_T38 HR0.out a2 p167 q167
                  cases e167
                  replace p167 := eq_true p167
                  replace q167 := eq_true q167
                  have p168 : 0 ≤ (a2 : Int) := of_decide_eq_true (by first | (with_reducible assumption) | assumption)
                  have q168 : a2 < (l0.length : Int) := of_decide_eq_true (by first | (with_reducible assumption) | assumption)
                  obtain ⟨ad168, e168, hx168_0, hx168_1, hx168_2⟩ := at_T38 HR0.out a2 p168 q168
                  obtain rfl : ad167 = ad168 := (by injection e168)
                  replace p168 := eq_true p168
                  replace q168 := eq_true q168
                  have p170 : 0 ≤ (a2 : Int) := of_decide_eq_true (by first | (with_reducible assumption) | assumption)
                  have q170 : a2 < (l1.length : Int) := of_decide_eq_true (by first | (with_reducible assumption) | assumption)
                  obtain ⟨ad170, e170, hx170_0⟩ := Kd.at_string HR1.out a2 p170 q170
                  cases e170
                  replace p170 := eq_true p170
                  replace q170 := eq_true q170
                  go_enter Try.func47, Try.ntmps47
                  go_wp2
                  go_ret
                  exact ⟨by first | rfl | (simp; done) | (simp [*]; done), by repeat (first | exact Drawn0.refl _ | apply Drawn0.step)⟩
                · rw [if_neg c14] at H
                  exact absurd H (by simp)
              · rw [if_neg c13] at H
                exact absurd H (by simp)
            · rw [if_neg c12] at H
              exact absurd H (by simp)
        · replace c9 := Bool.eq_false_iff.mpr c9
          subst c9
          have H1 : (if a2 < (l1.length : Int) then (if 1 + (rdOf ByteArray.empty l1 a2).size ≤ 9223372036854775807 then (if ((⟨#[40]⟩ : ByteArray) ++ (rdOf ByteArray.empty l1 a2)).size + 1 ≤ 9223372036854775807 then (some (((⟨#[40]⟩ : ByteArray) ++ (rdOf ByteArray.empty l1 a2)) ++ (⟨#[41]⟩ : ByteArray))) else (none)) else (none)) else (none)) = some r := by rw [if_neg (show ¬ (false = true) by decide)] at H; exact H
          clear H
          have H := H1
          clear H1
          by_cases c15 : a2 < (l1.length : Int)
          · rw [if_pos c15] at H
            have c15b0 : decide (a2 < (l1.length : Int)) = true := decide_eq_true c15
            clear c15
            by_cases c16 : 1 + (rdOf ByteArray.empty l1 a2).size ≤ 9223372036854775807
            · rw [if_pos c16] at H
              have c16b0 := eq_true c16
              have c16b1 : decide (1 + (rdOf ByteArray.empty l1 a2).size ≤ 9223372036854775807) = true := decide_eq_true c16
              try have c16b2 : (9223372036854775807 < 1 + (rdOf ByteArray.empty l1 a2).size) = False := eq_false (Nat.not_lt.2 c16)
              by_cases c17 : ((⟨#[40]⟩ : ByteArray) ++ (rdOf ByteArray.empty l1 a2)).size + 1 ≤ 9223372036854775807
              · rw [if_pos c17] at H
                have c17b0 := eq_true c17
                have c17b1 : decide (((⟨#[40]⟩ : ByteArray) ++ (rdOf ByteArray.empty l1 a2)).size + 1 ≤ 9223372036854775807) = true := decide_eq_true c17
                try have c17b2 : (9223372036854775807 < ((⟨#[40]⟩ : ByteArray) ++ (rdOf ByteArray.empty l1 a2)).size + 1) = False := eq_false (Nat.not_lt.2 c17)
                try have c17b4 := c17b2
                try simp only [ByteArray.size_append, show (⟨#[40]⟩ : ByteArray).size = 1 from rfl] at c17b4
                obtain rfl := Option.some.inj H
                have p167 : 0 ≤ (a2 : Int) := of_decide_eq_true (by first | (with_reducible assumption) | assumption)
                have q167 : a2 < (l0.length : Int) := of_decide_eq_true (by first | (with_reducible assumption) | assumption)
                obtain ⟨ad167, e167, hx167_0, hx167_1, hx167_2⟩ := at_T38 HR0.out a2 p167 q167
                cases e167
                replace p167 := eq_true p167
                replace q167 := eq_true q167
                have p171 : 0 ≤ (a2 : Int) := of_decide_eq_true (by first | (with_reducible assumption) | assumption)
                have q171 : a2 < (l1.length : Int) := of_decide_eq_true (by first | (with_reducible assumption) | assumption)
                obtain ⟨ad171, e171, hx171_0⟩ := Kd.at_string HR1.out a2 p171 q171
                cases e171
                replace p171 := eq_true p171
                replace q171 := eq_true q171
                go_enter Try.func47, Try.ntmps47
                go_wp2
                go_ret
                exact ⟨by first | rfl | (simp; done) | (simp [*]; done), by repeat (first | exact Drawn0.refl _ | apply Drawn0.step)⟩
              · rw [if_neg c17] at H
                exact absurd H (by simp)
            · rw [if_neg c16] at H
              exact absurd H (by simp)
          · rw [if_neg c15] at H
            exact absurd H (by simp)
      · rw [if_neg c8] at H
        have c8b0 : (((rd_T38 l0 a2).f0) == 4) = false := beq_eq_false_iff_ne.mpr c8
        have c8b1 : (((rd_T38 l0 a2).f0) != 4) = true := bne_iff_ne.mpr c8
        by_cases c18 : ((rd_T38 l0 a2).f0) = 5
        · rw [if_pos c18] at H
          have c18b0 : (((rd_T38 l0 a2).f0) == 5) = true := beq_iff_eq.mpr c18
          have c18b1 : (((rd_T38 l0 a2).f0) != 5) = false := bne_eq_false_iff_eq.mpr c18
          clear c18
          by_cases c19 : a4 = true
          · subst c19
            have H1 : (if ((rd_T38 l0 a2).f0) = a3 then (if a2 < (l1.length : Int) then (some (rdOf ByteArray.empty l1 a2)) else (none)) else (if a2 < (l1.length : Int) then (if 1 + (rdOf ByteArray.empty l1 a2).size ≤ 9223372036854775807 then (if ((⟨#[40]⟩ : ByteArray) ++ (rdOf ByteArray.empty l1 a2)).size + 1 ≤ 9223372036854775807 then (some (((⟨#[40]⟩ : ByteArray) ++ (rdOf ByteArray.empty l1 a2)) ++ (⟨#[41]⟩ : ByteArray))) else (none)) else (none)) else (none))) = some r := by rw [if_pos rfl] at H; exact H
            clear H
            have H := H1
            clear H1
            by_cases c20 : ((rd_T38 l0 a2).f0) = a3
            · rw [if_pos c20] at H
              have c20b0 : (((rd_T38 l0 a2).f0) == a3) = true := beq_iff_eq.mpr c20
              have c20b1 : (((rd_T38 l0 a2).f0) != a3) = false := bne_eq_false_iff_eq.mpr c20
              clear c20
              by_cases c21 : a2 < (l1.length : Int)
              · rw [if_pos c21] at H
                have c21b0 : decide (a2 < (l1.length : Int)) = true := decide_eq_true c21
                clear c21
                obtain rfl := Option.some.inj H
                have p167 : 0 ≤ (a2 : Int) := of_decide_eq_true (by first | (with_reducible assumption) | assumption)
                have q167 : a2 < (l0.length : Int) := of_decide_eq_true (by first | (with_reducible assumption) | assumption)
                obtain ⟨ad167, e167, hx167_0, hx167_1, hx167_2⟩ := at_T38 HR0.out a2 p167 q167
                cases e167
                replace p167 := eq_true p167
                replace q167 := eq_true q167
                have p172 : 0 ≤ (a2 : Int) := of_decide_eq_true (by first | (with_reducible assumption) | assumption)
                have q172 : a2 < (l0.length : Int) := of_decide_eq_true (by first | (with_reducible assumption) | assumption)
                obtain ⟨ad172, e172, hx172_0, hx172_1, hx172_2⟩ := at_T38 HR0.out a2 p172 q172
                obtain rfl : ad167 = ad172 := (by injection e172)
                replace p172 := eq_true p172
                replace q172 := eq_true q172
                have p173 : 0 ≤ (a2 : Int) := of_decide_eq_true (by first | (with_reducible assumption) | assumption)
                have q173 : a2 < (l0.length : Int) := of_decide_eq_true (by first | (with_reducible assumption) | assumption)
                obtain ⟨ad173, e173, hx173_0, hx173_1, hx173_2⟩ := at_T38 HR0.out a2 p173 q173
                obtain rfl : ad167 = ad173 := (by injection e173)
                replace p173 := eq_true p173
                replace q173 := eq_true q173
                have p174 : 0 ≤ (a2 : Int) := of_decide_eq_true (by first | (with_reducible assumption) | assumption)
                have q174 : a2 < (l1.length : Int) := of_decide_eq_true (by first | (with_reducible assumption) | assumption)
                obtain ⟨ad174, e174, hx174_0⟩ := Kd.at_string HR1.out a2 p174 q174
                cases e174
                replace p174 := eq_true p174
                replace q174 := eq_true q174
                go_enter Try.func47, Try.ntmps47
                go_wp2
                go_ret
                exact ⟨by first | rfl | (simp; done) | (simp [*]; done), by repeat (first | exact Drawn0.refl _ | apply Drawn0.step)⟩
              · rw [if_neg c21] at H
                exact absurd H (by simp)
            · rw [if_neg c20] at H
              have c20b0 : (((rd_T38 l0 a2).f0) == a3) = false := beq_eq_false_iff_ne.mpr c20
              have c20b1 : (((rd_T38 l0 a2).f0) != a3) = true := bne_iff_ne.mpr c20
              by_cases c22 : a2 < (l1.length : Int)
              · rw [if_pos c22] at H
                have c22b0 : decide (a2 < (l1.length : Int)) = true := decide_eq_true c22
                clear c22
                by_cases c23 : 1 + (rdOf ByteArray.empty l1 a2).size ≤ 9223372036854775807
                · rw [if_pos c23] at H
                  have c23b0 := eq_true c23
                  have c23b1 : decide (1 + (rdOf ByteArray.empty l1 a2).size ≤ 9223372036854775807) = true := decide_eq_true c23
                  try have c23b2 : (9223372036854775807 < 1 + (rdOf ByteArray.empty l1 a2).size) = False := eq_false (Nat.not_lt.2 c23)
                  by_cases c24 : ((⟨#[40]⟩ : ByteArray) ++ (rdOf ByteArray.empty l1 a2)).size + 1 ≤ 9223372036854775807
                  · rw [if_pos c24] at H
                    have c24b0 := eq_true c24
                    have c24b1 : decide (((⟨#[40]⟩ : ByteArray) ++ (rdOf ByteArray.empty l1 a2)).size + 1 ≤ 9223372036854775807) = true := decide_eq_true c24
                    try have c24b2 : (9223372036854775807 < ((⟨#[40]⟩ : ByteArray) ++ (rdOf ByteArray.empty l1 a2)).size + 1) = False := eq_false (Nat.not_lt.2 c24)
                    try have c24b4 := c24b2
                    try simp only [ByteArray.size_append, show (⟨#[40]⟩ : ByteArray).size = 1 from rfl] at c24b4
                    obtain rfl := Option.some.inj H
                    have p167 : 0 ≤ (a2 : Int) := of_decide_eq_true (by first | (with_reducible assumption) | assumption)
                    have q167 : a2 < (l0.length : Int) := of_decide_eq_true (by first | (with_reducible assumption) | assumption)
                    obtain ⟨ad167, e167, hx167_0, hx167_1, hx167_2⟩ := at_T38 HR0.out a2 p167 q167
                    cases e167
                    replace p167 := eq_true p167
                    replace q167 := eq_true q167
                    have p172 : 0 ≤ (a2 : Int) := of_decide_eq_true (by first | (with_reducible assumption) | assumption)
                    have q172 : a2 < (l0.length : Int) := of_decide_eq_true (by first | (with_reducible assumption) | assumption)
                    obtain ⟨ad172, e172, hx172_0, hx172_1, hx172_2⟩ := at_T38 HR0.out a2 p172 q172
                    obtain rfl : ad167 = ad172 := (by injection e172)
                    replace p172 := eq_true p172
                    replace q172 := eq_true q172
                    have p173 : 0 ≤ (a2 : Int) := of_decide_eq_true (by first | (with_reducible assumption) | assumption)
                    have q173 : a2 < (l0.length : Int) := of_decide_eq_true (by first | (with_reducible assumption) | assumption)
                    obtain ⟨ad173, e173, hx173_0, hx173_1, hx173_2⟩ := at_T38 HR0.out a2 p173 q173
                    obtain rfl : ad167 = ad173 := (by injection e173)
                    replace p173 := eq_true p173
                    replace q173 := eq_true q173
                    have p175 : 0 ≤ (a2 : Int) := of_decide_eq_true (by first | (with_reducible assumption) | assumption)
                    have q175 : a2 < (l1.length : Int) := of_decide_eq_true (by first | (with_reducible assumption) | assumption)
                    obtain ⟨ad175, e175, hx175_0⟩ := Kd.at_string HR1.out a2 p175 q175
                    cases e175
                    replace p175 := eq_true p175
                    replace q175 := eq_true q175
                    go_enter Try.func47, Try.ntmps47
                    go_wp2
                    go_ret
                    exact ⟨by first | rfl | (simp; done) | (simp [*]; done), by repeat (first | exact Drawn0.refl _ | apply Drawn0.step)⟩
                  · rw [if_neg c24] at H
                    exact absurd H (by simp)
                · rw [if_neg c23] at H
                  exact absurd H (by simp)
              · rw [if_neg c22] at H
                exact absurd H (by simp)
          · replace c19 := Bool.eq_false_iff.mpr c19
            subst c19
            have H1 : (if a2 < (l1.length : Int) then (if 1 + (rdOf ByteArray.empty l1 a2).size ≤ 9223372036854775807 then (if ((⟨#[40]⟩ : ByteArray) ++ (rdOf ByteArray.empty l1 a2)).size + 1 ≤ 9223372036854775807 then (some (((⟨#[40]⟩ : ByteArray) ++ (rdOf ByteArray.empty l1 a2)) ++ (⟨#[41]⟩ : ByteArray))) else (none)) else (none)) else (none)) = some r := by rw [if_neg (show ¬ (false = true) by decide)] at H; exact H
            clear H
            have H := H1
            clear H1
            by_cases c25 : a2 < (l1.length : Int)
            · rw [if_pos c25] at H
              have c25b0 : decide (a2 < (l1.length : Int)) = true := decide_eq_true c25
              clear c25
              by_cases c26 : 1 + (rdOf ByteArray.empty l1 a2).size ≤ 9223372036854775807
              · rw [if_pos c26] at H
                have c26b0 := eq_true c26
                have c26b1 : decide (1 + (rdOf ByteArray.empty l1 a2).size ≤ 9223372036854775807) = true := decide_eq_true c26
                try have c26b2 : (9223372036854775807 < 1 + (rdOf ByteArray.empty l1 a2).size) = False := eq_false (Nat.not_lt.2 c26)
                by_cases c27 : ((⟨#[40]⟩ : ByteArray) ++ (rdOf ByteArray.empty l1 a2)).size + 1 ≤ 9223372036854775807
                · rw [if_pos c27] at H
                  have c27b0 := eq_true c27
                  have c27b1 : decide (((⟨#[40]⟩ : ByteArray) ++ (rdOf ByteArray.empty l1 a2)).size + 1 ≤ 9223372036854775807) = true := decide_eq_true c27
                  try have c27b2 : (9223372036854775807 < ((⟨#[40]⟩ : ByteArray) ++ (rdOf ByteArray.empty l1 a2)).size + 1) = False := eq_false (Nat.not_lt.2 c27)
                  try have c27b4 := c27b2
                  try simp only [ByteArray.size_append, show (⟨#[40]⟩ : ByteArray).size = 1 from rfl] at c27b4
                  obtain rfl := Option.some.inj H
                  have p167 : 0 ≤ (a2 : Int) := of_decide_eq_true (by first | (with_reducible assumption) | assumption)
                  have q167 : a2 < (l0.length : Int) := of_decide_eq_true (by first | (with_reducible assumption) | assumption)
                  obtain ⟨ad167, e167, hx167_0, hx167_1, hx167_2⟩ := at_T38 HR0.out a2 p167 q167
                  cases e167
                  replace p167 := eq_true p167
                  replace q167 := eq_true q167
                  have p172 : 0 ≤ (a2 : Int) := of_decide_eq_true (by first | (with_reducible assumption) | assumption)
                  have q172 : a2 < (l0.length : Int) := of_decide_eq_true (by first | (with_reducible assumption) | assumption)
                  obtain ⟨ad172, e172, hx172_0, hx172_1, hx172_2⟩ := at_T38 HR0.out a2 p172 q172
                  obtain rfl : ad167 = ad172 := (by injection e172)
                  replace p172 := eq_true p172
                  replace q172 := eq_true q172
                  have p176 : 0 ≤ (a2 : Int) := of_decide_eq_true (by first | (with_reducible assumption) | assumption)
                  have q176 : a2 < (l1.length : Int) := of_decide_eq_true (by first | (with_reducible assumption) | assumption)
                  obtain ⟨ad176, e176, hx176_0⟩ := Kd.at_string HR1.out a2 p176 q176
                  cases e176
                  replace p176 := eq_true p176
                  replace q176 := eq_true q176
                  go_enter Try.func47, Try.ntmps47
                  go_wp2
                  go_ret
                  exact ⟨by first | rfl | (simp; done) | (simp [*]; done), by repeat (first | exact Drawn0.refl _ | apply Drawn0.step)⟩
                · rw [if_neg c27] at H
                  exact absurd H (by simp)
              · rw [if_neg c26] at H
                exact absurd H (by simp)
            · rw [if_neg c25] at H
              exact absurd H (by simp)
        · rw [if_neg c18] at H
          have c18b0 : (((rd_T38 l0 a2).f0) == 5) = false := beq_eq_false_iff_ne.mpr c18
          have c18b1 : (((rd_T38 l0 a2).f0) != 5) = true := bne_iff_ne.mpr c18
          by_cases c28 : a2 < (l1.length : Int)
          · rw [if_pos c28] at H
            have c28b0 : decide (a2 < (l1.length : Int)) = true := decide_eq_true c28
            clear c28
            obtain rfl := Option.some.inj H
            have p167 : 0 ≤ (a2 : Int) := of_decide_eq_true (by first | (with_reducible assumption) | assumption)
            have q167 : a2 < (l0.length : Int) := of_decide_eq_true (by first | (with_reducible assumption) | assumption)
            obtain ⟨ad167, e167, hx167_0, hx167_1, hx167_2⟩ := at_T38 HR0.out a2 p167 q167
            cases e167
            replace p167 := eq_true p167
            replace q167 := eq_true q167
            have p172 : 0 ≤ (a2 : Int) := of_decide_eq_true (by first | (with_reducible assumption) | assumption)
            have q172 : a2 < (l0.length : Int) := of_decide_eq_true (by first | (with_reducible assumption) | assumption)
            obtain ⟨ad172, e172, hx172_0, hx172_1, hx172_2⟩ := at_T38 HR0.out a2 p172 q172
            obtain rfl : ad167 = ad172 := (by injection e172)
            replace p172 := eq_true p172
            replace q172 := eq_true q172
            have p177 : 0 ≤ (a2 : Int) := of_decide_eq_true (by first | (with_reducible assumption) | assumption)
            have q177 : a2 < (l1.length : Int) := of_decide_eq_true (by first | (with_reducible assumption) | assumption)
            obtain ⟨ad177, e177, hx177_0⟩ := Kd.at_string HR1.out a2 p177 q177
            cases e177
            replace p177 := eq_true p177
            replace q177 := eq_true q177
            go_enter Try.func47, Try.ntmps47
            go_wp2
            go_ret
            exact ⟨by first | rfl | (simp; done) | (simp [*]; done), by repeat (first | exact Drawn0.refl _ | apply Drawn0.step)⟩
          · rw [if_neg c28] at H
            exact absurd H (by simp)
    · rw [if_neg c7] at H
      exact absurd H (by simp)
  · rw [if_neg c6] at H
    exact absurd H (by simp)

/-! ### tammyref07_figure: function 48 -/
def tammyref07_figure.f (a0 : Int) : Option (ByteArray) := some (strOfNums (([(wrap64 (48 + a0)) % 256] : List Int)))
set_option maxHeartbeats 8000000 in
set_option maxRecDepth 100000 in
theorem tammyref07_figure.calls (a0 : Int) (r : ByteArray) (w : World) (h : tammyref07_figure.f a0 = some r) :
    Calls Try.prog 48 #[.int .i64 a0] w fun e w' => e = .returned (.string r) ∧ Below w.heap.size w w' := by
  have HB := Aside0.mk (Below.refl w.heap.size w)
  have H : (some (strOfNums (([(wrap64 (48 + a0)) % 256] : List Int)))) = some r := h
  clear h
  obtain ⟨y178, hy178⟩ : ∃ y_ : List Int, y_ = (([(wrap64 (48 + a0)) % 256] : List Int)) := ⟨_, rfl⟩
  replace H : (some (strOfNums y178)) = some r := by first | (rw [hy178]; with_reducible exact H) | (have H2_ := (Option.bind_some _ _).symm.trans H; rw [hy178]; with_reducible exact H2_) | (have H2_ := (Option.bind_some _ _).symm.trans H; with_reducible exact H2_) | with_reducible exact H | (rw [hy178]; exact H) | exact H
  have Ny178 := Aside0.mk hy178
  clear hy178
  obtain rfl := Option.some.inj H
  go_enter Try.func48, Try.ntmps48
  go_wp2_with (first | ((with_reducible refine gate_dst (N := 6) rfl ?_); refine Kd.R_lit (Kd.int .u8) _ 5 ?hg (N := 6) ?hd (xs := ([(wrap64 (48 + a0)) % 256] : List Int)) (inner := [.int .u8 ((wrap64 (48 + a0)) % 256)]) (ok := fun _ => True) (okp := fun _ => True) ?hr ?hp (fun _ hk => hk) trivial (Below.refl _ _) (Nat.le_refl _) (by simp) ?_; (case hd => rfl); (case hg => rfl); (case hr => first | (go_simp; done) | (go_simp; rfl)); (case hp => exact (Reps.one (show Kd.M (Kd.int .u8) _ _ _ ((wrap64 (48 + a0)) % 256) [.int .u8 ((wrap64 (48 + a0)) % 256)] from rfl) (Reps.none _ _))); intro v179 w2 ho3 hb hg_ hnew_; clear hg_ hnew_; (first | rw [← Ny178.out] at ho3 | (simp only [Int.reduceToNat] at ho3; rw [← Ny178.out] at ho3)); have n0_ := Aside0.mk (Kd.R_lower ho3 (below_size (by repeat (first | (with_reducible first | exact HB.out | apply below_alloc | apply pw_below_drewN | apply below_drew1) | exact HB.out)))); have n1_ := Aside0.mk (below_step (by repeat (first | (with_reducible first | exact HB.out | apply below_alloc | apply pw_below_drewN | apply below_drew1) | exact HB.out)) hb); clear HB; have HO180 := n0_; have HB := n1_; clear n0_ n1_; clear hb ho3; have hcv4 := own_string (P := Try.prog) Try.underlying31 Try.underlying5 Try.underlying9 (Kd.own_of_R HO180.out)))
  go_ret
  exact ⟨by first | rfl | (simp [errW_none, errW_some] <;> rfl) | (simp [*, errW_none, errW_some] <;> rfl), by repeat (first | (with_reducible first | exact HB.out | apply below_alloc | apply pw_below_drewN | apply below_drew1) | exact HB.out)⟩

end Go.Proofs.Ytgbickkmfjngbaa.K
