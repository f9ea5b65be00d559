-- Laid by a program of this session (wip/gprint.py) over the kit's print of the translation; Lean checks it.
import Derived.Test.YtiliknfmlmdmbaaTx0
namespace Go.Proofs.Ytiliknfmlmdmbaa.T
open Go.RowKit Go.Proofs.YtiliknfmlmdmbaaW.PrintWords Go.Proofs.YtiliknfmlmdmbaaW.PrintLast Go.Proofs.YtiliknfmlmdmbaaW.PrintMore
attribute [local go_sem] max2_int min2_int max_two min_two max_three min_three max_four min_four   -- for this text's walks alone
set_option linter.unusedVariables false
set_option linter.unusedSimpArgs false

/-! ### tammyref03_may: function 38 -/
mutual
def tammyref03_may.l0 : Nat → List (S62) → Int → Int → Int → Int → Int → List Int → Option (Bool)
  | 0, _, _, _, _, _, _, _ => none
  | k + 1, x0, x1, x7, x237000, x237001, x237002, x237003 => if x7 < (x237003.length : Int) then (if 0 ≤ x7 then (if (rd x237003 x7) < 0 then (some false) else (if (rd x237003 x7) ≥ x1 then (some false) else (tammyref03_may.l0 k x0 x1 (wrap64 (x7 + 1)) x237000 x237001 x237002 x237003))) else (none)) else (if x237001 ≥ 0 then (tammyref03_may.j1 k x0 (x237003.length : Int) (decide (x237001 < (x0.length : Int))) x237000 x237001 x237002 x237003) else (tammyref03_may.j1 k x0 (x237003.length : Int) false x237000 x237001 x237002 x237003))
def tammyref03_may.j1 : Nat → List (S62) → Int → Bool → Int → Int → Int → List Int → Option (Bool)
  | 0, _, _, _, _, _, _, _ => none
  | k + 1, x0, x8, x9, x237000, x237001, x237002, x237003 => if x237000 = 0 then (tammyref03_may.j2 k x0 x8 x9 x237000 (x237000 == 0) x237000 x237001 x237002 x237003) else (tammyref03_may.j2 k x0 x8 x9 x237000 (x237000 == 1) x237000 x237001 x237002 x237003)
def tammyref03_may.j2 : Nat → List (S62) → Int → Bool → Int → Bool → Int → Int → Int → List Int → Option (Bool)
  | 0, _, _, _, _, _, _, _, _, _ => none
  | k + 1, x0, x8, x9, x46, x47, x237000, x237001, x237002, x237003 => if x47 = true then (if x237001 = 0 then (if x237002 = 0 then (some (x8 == 0)) else (some false)) else (some false)) else (if x46 = 2 then (if x237001 ≥ 0 then (if x237002 = 0 then (some (x8 == 0)) else (some false)) else (some false)) else (if x46 = 3 then (if x9 = true then (if x237002 = 0 then (if 0 ≤ x237001 then (if x237001 < (x0.length : Int) then (some (x8 == (((rd_T62 x0 x237001).f1).size : Int))) else (none)) else (none)) else (some false)) else (some false)) else (if x46 = 4 then (tammyref03_may.j3 k x0 x8 x9 x46 (x46 == 4) x237000 x237001 x237002 x237003) else (tammyref03_may.j3 k x0 x8 x9 x46 (x46 == 5) x237000 x237001 x237002 x237003))))
def tammyref03_may.j3 : Nat → List (S62) → Int → Bool → Int → Bool → Int → Int → Int → List Int → Option (Bool)
  | 0, _, _, _, _, _, _, _, _, _ => none
  | k + 1, x0, x8, x9, x46, x95, x237000, x237001, x237002, x237003 => if x95 = true then (if x237001 = 0 then (if x237002 = 0 then (some (x8 == 2)) else (some false)) else (some false)) else (if x46 = 6 then (if x9 = true then (if x237002 ≥ 0 then (if 0 ≤ x237001 then (if x237001 < (x0.length : Int) then (if x237002 < (((rd_T62 x0 x237001).f1).size : Int) then (some (x8 == 1)) else (some false)) else (none)) else (none)) else (some false)) else (some false)) else (some false))
end
def tammyref03_may.f (k : Nat) (l0 : List (S62)) (a1 : Int) (a2_0 : Int) (a2_1 : Int) (a2_2 : Int) (l2_3 : List Int) : Option (Bool) := tammyref03_may.l0 k l0 a1 0 a2_0 a2_1 a2_2 l2_3
theorem tammyref03_may.mono_l : ∀ k, (∀ y0 y1 y2 y3 y4 y5 y6, LeO (tammyref03_may.l0 k y0 y1 y2 y3 y4 y5 y6) (tammyref03_may.l0 (k + 1) y0 y1 y2 y3 y4 y5 y6)) ∧ (∀ y0 y1 y2 y3 y4 y5 y6, LeO (tammyref03_may.j1 k y0 y1 y2 y3 y4 y5 y6) (tammyref03_may.j1 (k + 1) y0 y1 y2 y3 y4 y5 y6)) ∧ (∀ y0 y1 y2 y3 y4 y5 y6 y7 y8, LeO (tammyref03_may.j2 k y0 y1 y2 y3 y4 y5 y6 y7 y8) (tammyref03_may.j2 (k + 1) y0 y1 y2 y3 y4 y5 y6 y7 y8)) ∧ (∀ y0 y1 y2 y3 y4 y5 y6 y7 y8, LeO (tammyref03_may.j3 k y0 y1 y2 y3 y4 y5 y6 y7 y8) (tammyref03_may.j3 (k + 1) y0 y1 y2 y3 y4 y5 y6 y7 y8))
  | 0 => ⟨fun _ _ _ _ _ _ _ r h => by simp [tammyref03_may.l0] at h, fun _ _ _ _ _ _ _ r h => by simp [tammyref03_may.j1] at h, fun _ _ _ _ _ _ _ _ _ r h => by simp [tammyref03_may.j2] at h, fun _ _ _ _ _ _ _ _ _ r h => by simp [tammyref03_may.j3] at h⟩
  | k + 1 => by
    obtain ⟨ih0, ih1, ih2, ih3⟩ := tammyref03_may.mono_l k
    refine ⟨?_, ?_, ?_, ?_⟩
    · intro y0 y1 y2 y3 y4 y5 y6
      unfold tammyref03_may.l0
      repeat' first
      | (with_reducible exact ih0 _ _ _ _ _ _ _)
      | (with_reducible exact ih1 _ _ _ _ _ _ _)
      | (with_reducible exact ih2 _ _ _ _ _ _ _ _ _)
      | (with_reducible exact ih3 _ _ _ _ _ _ _ _ _)
      | (with_reducible exact LeO.refl _)
      | (with_reducible exact LeO.none _)
      | (with_reducible refine LeO.ite ?_ ?_)
      | (with_reducible refine LeO.bind ?_ (fun _ => ?_))
      | exact ih0 _ _ _ _ _ _ _
      | exact ih1 _ _ _ _ _ _ _
      | exact ih2 _ _ _ _ _ _ _ _ _
      | exact ih3 _ _ _ _ _ _ _ _ _
      | exact LeO.none _
      | refine LeO.ite ?_ ?_
      | refine LeO.bind ?_ (fun _ => ?_)
    · intro y0 y1 y2 y3 y4 y5 y6
      unfold tammyref03_may.j1
      repeat' first
      | (with_reducible exact ih0 _ _ _ _ _ _ _)
      | (with_reducible exact ih1 _ _ _ _ _ _ _)
      | (with_reducible exact ih2 _ _ _ _ _ _ _ _ _)
      | (with_reducible exact ih3 _ _ _ _ _ _ _ _ _)
      | (with_reducible exact LeO.refl _)
      | (with_reducible exact LeO.none _)
      | (with_reducible refine LeO.ite ?_ ?_)
      | (with_reducible refine LeO.bind ?_ (fun _ => ?_))
      | exact ih0 _ _ _ _ _ _ _
      | exact ih1 _ _ _ _ _ _ _
      | exact ih2 _ _ _ _ _ _ _ _ _
      | exact ih3 _ _ _ _ _ _ _ _ _
      | exact LeO.none _
      | refine LeO.ite ?_ ?_
      | refine LeO.bind ?_ (fun _ => ?_)
    · intro y0 y1 y2 y3 y4 y5 y6 y7 y8
      unfold tammyref03_may.j2
      repeat' first
      | (with_reducible exact ih0 _ _ _ _ _ _ _)
      | (with_reducible exact ih1 _ _ _ _ _ _ _)
      | (with_reducible exact ih2 _ _ _ _ _ _ _ _ _)
      | (with_reducible exact ih3 _ _ _ _ _ _ _ _ _)
      | (with_reducible exact LeO.refl _)
      | (with_reducible exact LeO.none _)
      | (with_reducible refine LeO.ite ?_ ?_)
      | (with_reducible refine LeO.bind ?_ (fun _ => ?_))
      | exact ih0 _ _ _ _ _ _ _
      | exact ih1 _ _ _ _ _ _ _
      | exact ih2 _ _ _ _ _ _ _ _ _
      | exact ih3 _ _ _ _ _ _ _ _ _
      | exact LeO.none _
      | refine LeO.ite ?_ ?_
      | refine LeO.bind ?_ (fun _ => ?_)
    · intro y0 y1 y2 y3 y4 y5 y6 y7 y8
      unfold tammyref03_may.j3
      repeat' first
      | (with_reducible exact ih0 _ _ _ _ _ _ _)
      | (with_reducible exact ih1 _ _ _ _ _ _ _)
      | (with_reducible exact ih2 _ _ _ _ _ _ _ _ _)
      | (with_reducible exact ih3 _ _ _ _ _ _ _ _ _)
      | (with_reducible exact LeO.refl _)
      | (with_reducible exact LeO.none _)
      | (with_reducible refine LeO.ite ?_ ?_)
      | (with_reducible refine LeO.bind ?_ (fun _ => ?_))
      | exact ih0 _ _ _ _ _ _ _
      | exact ih1 _ _ _ _ _ _ _
      | exact ih2 _ _ _ _ _ _ _ _ _
      | exact ih3 _ _ _ _ _ _ _ _ _
      | exact LeO.none _
      | refine LeO.ite ?_ ?_
      | refine LeO.bind ?_ (fun _ => ?_)
theorem tammyref03_may.mono : ∀ a0 a1 a2 a3 a4 a5 k, LeO (tammyref03_may.f k a0 a1 a2 a3 a4 a5) (tammyref03_may.f (k + 1) a0 a1 a2 a3 a4 a5) := by
  intro a0 a1 a2 a3 a4 a5 k
  obtain ⟨ih0, ih1, ih2, ih3⟩ := tammyref03_may.mono_l k
  unfold tammyref03_may.f
  repeat' first
      | (with_reducible exact ih0 _ _ _ _ _ _ _)
      | (with_reducible exact ih1 _ _ _ _ _ _ _)
      | (with_reducible exact ih2 _ _ _ _ _ _ _ _ _)
      | (with_reducible exact ih3 _ _ _ _ _ _ _ _ _)
      | (with_reducible exact LeO.refl _)
      | (with_reducible exact LeO.none _)
      | (with_reducible refine LeO.ite ?_ ?_)
      | (with_reducible refine LeO.bind ?_ (fun _ => ?_))
      | exact ih0 _ _ _ _ _ _ _
      | exact ih1 _ _ _ _ _ _ _
      | exact ih2 _ _ _ _ _ _ _ _ _
      | exact ih3 _ _ _ _ _ _ _ _ _
      | exact LeO.none _
      | refine LeO.ite ?_ ?_
      | refine LeO.bind ?_ (fun _ => ?_)
set_option maxHeartbeats 8000000 in
set_option maxRecDepth 100000 in
theorem tammyref03_may.calls (k : Nat) (A0 : Option Addr) (c0 : Nat) (l0 : List (S62)) (a1 : Int) (a2_0 : Int) (a2_1 : Int) (a2_2 : Int) (A2_3 : Option Addr) (c2_3 : Nat) (l2_3 : List Int) (r : Bool) (w : World) (hr0 : Kd.C k62 w A0 l0.length l0) (hc0 : l0.length ≤ c0) (hr2_3 : Kd.C (Kd.int .i64) w A2_3 l2_3.length l2_3) (hc2_3 : l2_3.length ≤ c2_3) (h : tammyref03_may.f k l0 a1 a2_0 a2_1 a2_2 l2_3 = some r) :
    Calls Try.prog 38 #[.slice A0 l0.length c0, .int .i64 a1, .agg #[.int .i64 a2_0, .int .i64 a2_1, .int .i64 a2_2, .slice A2_3 l2_3.length c2_3]] w fun e w' => e = .returned (.bool r) ∧ Below w.heap.size w w' := by
  have hu28 := Try.underlying28
  have HR0 := Aside0.mk hr0
  have HC0 := Aside0.mk hc0
  clear hr0 hc0
  have HR2_3 := Aside0.mk hr2_3
  have HC2_3 := Aside0.mk hc2_3
  clear hr2_3 hc2_3
  have HB := Aside0.mk (Below.refl w.heap.size w)
  have H : (tammyref03_may.l0 k l0 a1 0 a2_0 a2_1 a2_2 l2_3) = some r := h
  clear h
  have H' := Aside0.mk H
  clear H
  go_enter Try.func38, Try.ntmps38
  go_wp2_with (first | ((with_reducible refine gate_dst (N := 5) rfl ?_); (try (refine gate_guard (by rfl) ?_; dsimp only)); refine box_event ?hg (N := 5) ?hd (cs := #[.int .i64 a2_0, .int .i64 a2_1, .int .i64 a2_2, .slice A2_3 l2_3.length c2_3]) (t := 28) ?hr ?_; (case hd => rfl); (case hg => rfl); (case hr => first | (go_simp; done) | (go_simp; rfl)); intro gb236 hg w4 hbox hb; have n0_ := Aside0.mk (below_step (by repeat (first | (with_reducible first | exact HB.out | apply below_alloc | apply pw_below_drewN | apply below_drew1) | exact HB.out)) hb); have n1_ := Aside0.mk (hbox); have n2_ := Aside0.mk ((by rw [hg]; exact (below_size (by repeat (first | (with_reducible first | exact HB.out | apply below_alloc | apply pw_below_drewN | apply below_drew1) | exact HB.out))) : w.heap.size ≤ gb236)); have n3_ := Aside0.mk ((by rw [hg]; exact (below_size (by repeat (first | (with_reducible first | exact HB.out | apply below_alloc | apply pw_below_drewN | apply below_drew1) | exact HB.out))) : w.heap.size ≤ gb236)); clear HB; have HB := n0_; have BK236 := n1_; have GW236 := n2_; have GE236 := n3_; clear n0_ n1_ n2_ n3_; clear hb hbox hg))
  repeat (go_quiet (first | ((with_reducible refine gate_dst (N := 5) rfl ?_); (try (refine gate_guard (by rfl) ?_; dsimp only)); refine box_event ?hg (N := 5) ?hd (cs := #[.int .i64 a2_0, .int .i64 a2_1, .int .i64 a2_2, .slice A2_3 l2_3.length c2_3]) (t := 28) ?hr ?_; (case hd => rfl); (case hg => rfl); (case hr => first | (go_simp; done) | (go_simp; rfl)); intro gb236 hg w4 hbox hb; have n0_ := Aside0.mk (below_step (by repeat (first | (with_reducible first | exact HB.out | apply below_alloc | apply pw_below_drewN | apply below_drew1) | exact HB.out)) hb); have n1_ := Aside0.mk (hbox); have n2_ := Aside0.mk ((by rw [hg]; exact (below_size (by repeat (first | (with_reducible first | exact HB.out | apply below_alloc | apply pw_below_drewN | apply below_drew1) | exact HB.out))) : w.heap.size ≤ gb236)); have n3_ := Aside0.mk ((by rw [hg]; exact (below_size (by repeat (first | (with_reducible first | exact HB.out | apply below_alloc | apply pw_below_drewN | apply below_drew1) | exact HB.out))) : w.heap.size ≤ gb236)); clear HB; have HB := n0_; have BK236 := n1_; have GW236 := n2_; have GE236 := n3_; clear n0_ n1_ n2_ n3_; clear hb hbox hg)); try go_wp2_with (first | ((with_reducible refine gate_dst (N := 5) rfl ?_); (try (refine gate_guard (by rfl) ?_; dsimp only)); refine box_event ?hg (N := 5) ?hd (cs := #[.int .i64 a2_0, .int .i64 a2_1, .int .i64 a2_2, .slice A2_3 l2_3.length c2_3]) (t := 28) ?hr ?_; (case hd => rfl); (case hg => rfl); (case hr => first | (go_simp; done) | (go_simp; rfl)); intro gb236 hg w4 hbox hb; have n0_ := Aside0.mk (below_step (by repeat (first | (with_reducible first | exact HB.out | apply below_alloc | apply pw_below_drewN | apply below_drew1) | exact HB.out)) hb); have n1_ := Aside0.mk (hbox); have n2_ := Aside0.mk ((by rw [hg]; exact (below_size (by repeat (first | (with_reducible first | exact HB.out | apply below_alloc | apply pw_below_drewN | apply below_drew1) | exact HB.out))) : w.heap.size ≤ gb236)); have n3_ := Aside0.mk ((by rw [hg]; exact (below_size (by repeat (first | (with_reducible first | exact HB.out | apply below_alloc | apply pw_below_drewN | apply below_drew1) | exact HB.out))) : w.heap.size ≤ gb236)); clear HB; have HB := n0_; have BK236 := n1_; have GW236 := n2_; have GE236 := n3_; clear n0_ n1_ n2_ n3_; clear hb hbox hg)))
  go_loopg [7] k (fun kq v7 w' => ∃ (x7_1 : Int), v7 = .int .i64 x7_1 ∧ Aside0 (tammyref03_may.l0 kq l0 a1 x7_1 a2_0 a2_1 a2_2 l2_3 = some r) ∧ Aside0 (kq ≤ k) ∧ Aside0 (w'.heap[gb236]? = some (.cells #[.int .i64 a2_0, .int .i64 a2_1, .int .i64 a2_2, (.slice A2_3 l2_3.length c2_3)] 28 (0, 0))) ∧ Aside0 (Below w.heap.size w w'))
  case atStart => exact ⟨(0), (by first | rfl | (simp; done) | (simp [*]; done)), H', ⟨Nat.le_refl _⟩, ⟨by (with_reducible repeat (first | refine blk_drewN ?_ _ | refine blk_drew ?_ | refine blk_alloc ?_ _)); exact BK236.out⟩, ⟨by repeat (first | (with_reducible first | exact HB.out | apply below_alloc | apply pw_below_drewN | apply below_drew1 | refine below_set ?_ GE236.out) | exact HB.out)⟩⟩
  case round =>
    clear H'
    try clear c2
    try clear p2
    try clear c3
    obtain ⟨x7_1, rfl, HA, HK1, BK236, HB⟩ := hrel
    cases gk with
    | zero => exact absurd HA.out (by simp [tammyref03_may.l0])
    | succ k1 =>
      have H := HA.out
      clear HA
      simp only [tammyref03_may.l0] at H
      by_cases c5 : x7_1 < (l2_3.length : Int)
      · rw [if_pos c5] at H
        have c5b0 : decide (x7_1 < (l2_3.length : Int)) = true := decide_eq_true c5
        clear c5
        by_cases c6 : 0 ≤ x7_1
        · rw [if_pos c6] at H
          have c6b0 : decide (0 ≤ x7_1) = true := decide_eq_true c6
          clear c6
          by_cases c7 : (rd l2_3 x7_1) < 0
          · rw [if_pos c7] at H
            have c7b0 : decide ((rd l2_3 x7_1) < 0) = true := decide_eq_true c7
            clear c7
            obtain rfl := Option.some.inj H
            have hcz8_0 : wr.cell? ⟨gb236, 0, none⟩ = some (.int .i64 a2_0) := (blk_cell BK236.out 0).trans rfl
            have hcz8_1 : wr.cell? ⟨gb236, 1, none⟩ = some (.int .i64 a2_1) := (blk_cell BK236.out 1).trans rfl
            have hcz8_2 : wr.cell? ⟨gb236, 2, none⟩ = some (.int .i64 a2_2) := (blk_cell BK236.out 2).trans rfl
            have hcz8_3 : wr.cell? ⟨gb236, 3, none⟩ = some (.slice A2_3 l2_3.length c2_3) := (blk_cell BK236.out 3).trans rfl
            have hfz8_0 := blk_frozen BK236.out 0
            have hfz8_1 := blk_frozen BK236.out 1
            have hfz8_2 := blk_frozen BK236.out 2
            have hfz8_3 := blk_frozen BK236.out 3
            have p237 : 0 ≤ (x7_1 : Int) := of_decide_eq_true (by first | (with_reducible assumption) | assumption)
            have q237 : x7_1 < (l2_3.length : Int) := of_decide_eq_true (by first | (with_reducible assumption) | assumption)
            obtain ⟨ad237, e237, hx237_0⟩ := Kd.at_int HR2_3.out x7_1 p237 q237
            cases e237
            replace hx237_0 := (HB.out.cell (World.block_lt_of_cell? w _ hx237_0)).trans hx237_0
            replace p237 := eq_true p237
            replace q237 := eq_true q237
            go_wp2
            repeat (go_quiet (fail); try go_wp2)
            go_ret
            exact ⟨by first | rfl | (simp [errW_none, errW_some] <;> rfl) | (simp [*, errW_none, errW_some] <;> rfl), by repeat (first | (with_reducible first | exact HB.out | apply below_alloc | apply pw_below_drewN | apply below_drew1 | refine below_set ?_ GE236.out) | exact HB.out)⟩
          · rw [if_neg c7] at H
            have c7b0 : decide ((rd l2_3 x7_1) < 0) = false := decide_eq_false c7
            clear c7
            by_cases c9 : (rd l2_3 x7_1) ≥ a1
            · rw [if_pos c9] at H
              have c9b0 : decide (a1 ≤ (rd l2_3 x7_1)) = true := decide_eq_true c9
              clear c9
              obtain rfl := Option.some.inj H
              have hcz10_0 : wr.cell? ⟨gb236, 0, none⟩ = some (.int .i64 a2_0) := (blk_cell BK236.out 0).trans rfl
              have hcz10_1 : wr.cell? ⟨gb236, 1, none⟩ = some (.int .i64 a2_1) := (blk_cell BK236.out 1).trans rfl
              have hcz10_2 : wr.cell? ⟨gb236, 2, none⟩ = some (.int .i64 a2_2) := (blk_cell BK236.out 2).trans rfl
              have hcz10_3 : wr.cell? ⟨gb236, 3, none⟩ = some (.slice A2_3 l2_3.length c2_3) := (blk_cell BK236.out 3).trans rfl
              have hfz10_0 := blk_frozen BK236.out 0
              have hfz10_1 := blk_frozen BK236.out 1
              have hfz10_2 := blk_frozen BK236.out 2
              have hfz10_3 := blk_frozen BK236.out 3
              have p237 : 0 ≤ (x7_1 : Int) := of_decide_eq_true (by first | (with_reducible assumption) | assumption)
              have q237 : x7_1 < (l2_3.length : Int) := of_decide_eq_true (by first | (with_reducible assumption) | assumption)
              obtain ⟨ad237, e237, hx237_0⟩ := Kd.at_int HR2_3.out x7_1 p237 q237
              cases e237
              replace hx237_0 := (HB.out.cell (World.block_lt_of_cell? w _ hx237_0)).trans hx237_0
              replace p237 := eq_true p237
              replace q237 := eq_true q237
              have p238 : 0 ≤ (x7_1 : Int) := of_decide_eq_true (by first | (with_reducible assumption) | assumption)
              have q238 : x7_1 < (l2_3.length : Int) := of_decide_eq_true (by first | (with_reducible assumption) | assumption)
              obtain ⟨ad238, e238, hx238_0⟩ := Kd.at_int HR2_3.out x7_1 p238 q238
              obtain rfl : ad237 = ad238 := (by injection e238)
              replace hx238_0 := (HB.out.cell (World.block_lt_of_cell? w _ hx238_0)).trans hx238_0
              replace p238 := eq_true p238
              replace q238 := eq_true q238
              go_wp2
              repeat (go_quiet (fail); try go_wp2)
              go_ret
              exact ⟨by first | rfl | (simp [errW_none, errW_some] <;> rfl) | (simp [*, errW_none, errW_some] <;> rfl), by repeat (first | (with_reducible first | exact HB.out | apply below_alloc | apply pw_below_drewN | apply below_drew1 | refine below_set ?_ GE236.out) | exact HB.out)⟩
            · rw [if_neg c9] at H
              have c9b0 : decide (a1 ≤ (rd l2_3 x7_1)) = false := decide_eq_false c9
              clear c9
              have H' := Aside0.mk H
              clear H
              have hcz11_0 : wr.cell? ⟨gb236, 0, none⟩ = some (.int .i64 a2_0) := (blk_cell BK236.out 0).trans rfl
              have hcz11_1 : wr.cell? ⟨gb236, 1, none⟩ = some (.int .i64 a2_1) := (blk_cell BK236.out 1).trans rfl
              have hcz11_2 : wr.cell? ⟨gb236, 2, none⟩ = some (.int .i64 a2_2) := (blk_cell BK236.out 2).trans rfl
              have hcz11_3 : wr.cell? ⟨gb236, 3, none⟩ = some (.slice A2_3 l2_3.length c2_3) := (blk_cell BK236.out 3).trans rfl
              have hfz11_0 := blk_frozen BK236.out 0
              have hfz11_1 := blk_frozen BK236.out 1
              have hfz11_2 := blk_frozen BK236.out 2
              have hfz11_3 := blk_frozen BK236.out 3
              have p237 : 0 ≤ (x7_1 : Int) := of_decide_eq_true (by first | (with_reducible assumption) | assumption)
              have q237 : x7_1 < (l2_3.length : Int) := of_decide_eq_true (by first | (with_reducible assumption) | assumption)
              obtain ⟨ad237, e237, hx237_0⟩ := Kd.at_int HR2_3.out x7_1 p237 q237
              cases e237
              replace hx237_0 := (HB.out.cell (World.block_lt_of_cell? w _ hx237_0)).trans hx237_0
              replace p237 := eq_true p237
              replace q237 := eq_true q237
              have p238 : 0 ≤ (x7_1 : Int) := of_decide_eq_true (by first | (with_reducible assumption) | assumption)
              have q238 : x7_1 < (l2_3.length : Int) := of_decide_eq_true (by first | (with_reducible assumption) | assumption)
              obtain ⟨ad238, e238, hx238_0⟩ := Kd.at_int HR2_3.out x7_1 p238 q238
              obtain rfl : ad237 = ad238 := (by injection e238)
              replace hx238_0 := (HB.out.cell (World.block_lt_of_cell? w _ hx238_0)).trans hx238_0
              replace p238 := eq_true p238
              replace q238 := eq_true q238
              go_wp2
              repeat (go_quiet (fail); try go_wp2)
              go_roundg k1
              case measure => have := HK1.out; omega
              case rel => exact ⟨(wrap64 (x7_1 + 1)), (by first | rfl | (simp; done) | (simp [*]; done)), H', ⟨by have := HK1.out; omega⟩, ⟨by (with_reducible repeat (first | refine blk_drewN ?_ _ | refine blk_drew ?_ | refine blk_alloc ?_ _)); exact BK236.out⟩, ⟨by repeat (first | (with_reducible first | exact HB.out | apply below_alloc | apply pw_below_drewN | apply below_drew1 | refine below_set ?_ GE236.out) | exact HB.out)⟩⟩
        · rw [if_neg c6] at H
          exact absurd H (by simp)
      · rw [if_neg c5] at H
        have c5b0 : decide (x7_1 < (l2_3.length : Int)) = false := decide_eq_false c5
        clear c5
        have HC12 := Aside0.mk H
        clear H
        have hcz13_0 : wr.cell? ⟨gb236, 0, none⟩ = some (.int .i64 a2_0) := (blk_cell BK236.out 0).trans rfl
        have hcz13_1 : wr.cell? ⟨gb236, 1, none⟩ = some (.int .i64 a2_1) := (blk_cell BK236.out 1).trans rfl
        have hcz13_2 : wr.cell? ⟨gb236, 2, none⟩ = some (.int .i64 a2_2) := (blk_cell BK236.out 2).trans rfl
        have hcz13_3 : wr.cell? ⟨gb236, 3, none⟩ = some (.slice A2_3 l2_3.length c2_3) := (blk_cell BK236.out 3).trans rfl
        have hfz13_0 := blk_frozen BK236.out 0
        have hfz13_1 := blk_frozen BK236.out 1
        have hfz13_2 := blk_frozen BK236.out 2
        have hfz13_3 := blk_frozen BK236.out 3
        go_upto_region 7 with (fail)
        repeat (go_quiet (fail); go_upto_region 7 with (fail))
        go_cut [9] (fun v9 wc => ∃ (kq : Nat) (x9_11 : Bool), v9 = .bool x9_11 ∧ Aside0 (tammyref03_may.j1 kq l0 (l2_3.length : Int) x9_11 a2_0 a2_1 a2_2 l2_3 = some r) ∧ Aside0 (kq ≤ k1) ∧ Aside0 (wc.heap[gb236]? = some (.cells #[.int .i64 a2_0, .int .i64 a2_1, .int .i64 a2_2, (.slice A2_3 l2_3.length c2_3)] 28 (0, 0))) ∧ Aside0 (Below w.heap.size w wc))
        case first =>
          have H := HC12.out
          clear HC12
          by_cases c14 : a2_1 ≥ 0
          · rw [if_pos c14] at H
            have c14b0 : decide (0 ≤ a2_1) = true := decide_eq_true c14
            clear c14
            (first | rw [c14b0] | (simp only [i64_w, i32_w]; rw [c14b0]) | skip)
            have H' := Aside0.mk H
            clear H
            have hcz15_0 : wr.cell? ⟨gb236, 0, none⟩ = some (.int .i64 a2_0) := (blk_cell BK236.out 0).trans rfl
            have hcz15_1 : wr.cell? ⟨gb236, 1, none⟩ = some (.int .i64 a2_1) := (blk_cell BK236.out 1).trans rfl
            have hcz15_2 : wr.cell? ⟨gb236, 2, none⟩ = some (.int .i64 a2_2) := (blk_cell BK236.out 2).trans rfl
            have hcz15_3 : wr.cell? ⟨gb236, 3, none⟩ = some (.slice A2_3 l2_3.length c2_3) := (blk_cell BK236.out 3).trans rfl
            have hfz15_0 := blk_frozen BK236.out 0
            have hfz15_1 := blk_frozen BK236.out 1
            have hfz15_2 := blk_frozen BK236.out 2
            have hfz15_3 := blk_frozen BK236.out 3
            go_wp2
            repeat (go_quiet (fail); try go_wp2)
            go_meet
            case rel => exact ⟨_, (decide (a2_1 < (l0.length : Int))), (by first | rfl | (simp; done) | (simp [*]; done)), H', ⟨by have := HK1.out; first | omega | exact Nat.le_refl _⟩, ⟨by (with_reducible repeat (first | refine blk_drewN ?_ _ | refine blk_drew ?_ | refine blk_alloc ?_ _)); exact BK236.out⟩, ⟨by repeat (first | (with_reducible first | exact HB.out | apply below_alloc | apply pw_below_drewN | apply below_drew1 | refine below_set ?_ GE236.out) | exact HB.out)⟩⟩
          · rw [if_neg c14] at H
            have c14b0 : decide (0 ≤ a2_1) = false := decide_eq_false c14
            clear c14
            (first | rw [c14b0] | (simp only [i64_w, i32_w]; rw [c14b0]) | skip)
            have H' := Aside0.mk H
            clear H
            have hcz16_0 : wr.cell? ⟨gb236, 0, none⟩ = some (.int .i64 a2_0) := (blk_cell BK236.out 0).trans rfl
            have hcz16_1 : wr.cell? ⟨gb236, 1, none⟩ = some (.int .i64 a2_1) := (blk_cell BK236.out 1).trans rfl
            have hcz16_2 : wr.cell? ⟨gb236, 2, none⟩ = some (.int .i64 a2_2) := (blk_cell BK236.out 2).trans rfl
            have hcz16_3 : wr.cell? ⟨gb236, 3, none⟩ = some (.slice A2_3 l2_3.length c2_3) := (blk_cell BK236.out 3).trans rfl
            have hfz16_0 := blk_frozen BK236.out 0
            have hfz16_1 := blk_frozen BK236.out 1
            have hfz16_2 := blk_frozen BK236.out 2
            have hfz16_3 := blk_frozen BK236.out 3
            go_wp2
            repeat (go_quiet (fail); try go_wp2)
            go_meet
            case rel => exact ⟨_, (false), (by first | rfl | (simp; done) | (simp [*]; done)), H', ⟨by have := HK1.out; first | omega | exact Nat.le_refl _⟩, ⟨by (with_reducible repeat (first | refine blk_drewN ?_ _ | refine blk_drew ?_ | refine blk_alloc ?_ _)); exact BK236.out⟩, ⟨by repeat (first | (with_reducible first | exact HB.out | apply below_alloc | apply pw_below_drewN | apply below_drew1 | refine below_set ?_ GE236.out) | exact HB.out)⟩⟩
        case rest =>
          clear HC12
          try clear c1
          try clear c2
          try clear p2
          try clear q2
          try clear hx2
          try clear c3
          try clear c5
          try clear c5b0
          try clear c6
          try clear c6b0
          try clear p6
          try clear c7
          try clear c7b0
          try clear c9
          try clear c9b0
          try clear c14
          try clear c14b0
          try clear hcz10_0
          try clear hcz10_1
          try clear hcz10_2
          try clear hcz10_3
          try clear hcz11_0
          try clear hcz11_1
          try clear hcz11_2
          try clear hcz11_3
          try clear hcz13_0
          try clear hcz13_1
          try clear hcz13_2
          try clear hcz13_3
          try clear hcz15_0
          try clear hcz15_1
          try clear hcz15_2
          try clear hcz15_3
          try clear hcz16_0
          try clear hcz16_1
          try clear hcz16_2
          try clear hcz16_3
          try clear hcz8_0
          try clear hcz8_1
          try clear hcz8_2
          try clear hcz8_3
          try clear hfz10_0
          try clear hfz10_1
          try clear hfz10_2
          try clear hfz10_3
          try clear hfz11_0
          try clear hfz11_1
          try clear hfz11_2
          try clear hfz11_3
          try clear hfz13_0
          try clear hfz13_1
          try clear hfz13_2
          try clear hfz13_3
          try clear hfz15_0
          try clear hfz15_1
          try clear hfz15_2
          try clear hfz15_3
          try clear hfz16_0
          try clear hfz16_1
          try clear hfz16_2
          try clear hfz16_3
          try clear hfz8_0
          try clear hfz8_1
          try clear hfz8_2
          try clear hfz8_3
          try clear hx237_0
          try clear hx238_0
          try clear p2
          try clear p237
          try clear p238
          try clear q237
          try clear q238
          obtain ⟨kq, x9_11, rfl, HA, HJ11, BK236, HB⟩ := hcut
          cases kq with
          | zero => exact absurd HA.out (by simp [tammyref03_may.j1])
          | succ kj11 =>
            have H := HA.out
            clear HA
            simp only [tammyref03_may.j1] at H
            have HC17 := Aside0.mk H
            clear H
            have hcz18_0 : wc.cell? ⟨gb236, 0, none⟩ = some (.int .i64 a2_0) := (blk_cell BK236.out 0).trans rfl
            have hcz18_1 : wc.cell? ⟨gb236, 1, none⟩ = some (.int .i64 a2_1) := (blk_cell BK236.out 1).trans rfl
            have hcz18_2 : wc.cell? ⟨gb236, 2, none⟩ = some (.int .i64 a2_2) := (blk_cell BK236.out 2).trans rfl
            have hcz18_3 : wc.cell? ⟨gb236, 3, none⟩ = some (.slice A2_3 l2_3.length c2_3) := (blk_cell BK236.out 3).trans rfl
            have hfz18_0 := blk_frozen BK236.out 0
            have hfz18_1 := blk_frozen BK236.out 1
            have hfz18_2 := blk_frozen BK236.out 2
            have hfz18_3 := blk_frozen BK236.out 3
            go_upto_if 47 with (fail)
            repeat (go_quiet (fail); go_upto_if 47 with (fail))
            go_cut [47] (fun v47 wc => ∃ (kq : Nat) (x47_16 : Bool), v47 = .bool x47_16 ∧ Aside0 (tammyref03_may.j2 kq l0 (l2_3.length : Int) x9_11 a2_0 x47_16 a2_0 a2_1 a2_2 l2_3 = some r) ∧ Aside0 (kq ≤ kj11) ∧ Aside0 (wc.heap[gb236]? = some (.cells #[.int .i64 a2_0, .int .i64 a2_1, .int .i64 a2_2, (.slice A2_3 l2_3.length c2_3)] 28 (0, 0))) ∧ Aside0 (Below w.heap.size w wc))
            case first =>
              have H := HC17.out
              clear HC17
              by_cases c19 : a2_0 = 0
              · rw [if_pos c19] at H
                have c19b0 : (a2_0 == 0) = true := beq_iff_eq.mpr c19
                have c19b1 : (a2_0 != 0) = false := bne_eq_false_iff_eq.mpr c19
                clear c19
                (first | rw [c19b0] | (simp only [i64_w, i32_w]; rw [c19b0]) | skip)
                have H' := Aside0.mk H
                clear H
                go_wp2
                repeat (go_quiet (fail); try go_wp2)
                go_meet
                case rel => exact ⟨_, ((a2_0 == 0)), (by first | rfl | (simp; done) | (simp [*]; done)), H', ⟨by have := HK1.out; have := HJ11.out; first | omega | exact Nat.le_refl _⟩, ⟨by (with_reducible repeat (first | refine blk_drewN ?_ _ | refine blk_drew ?_ | refine blk_alloc ?_ _)); exact BK236.out⟩, ⟨by repeat (first | (with_reducible first | exact HB.out | apply below_alloc | apply pw_below_drewN | apply below_drew1 | refine below_set ?_ GE236.out) | exact HB.out)⟩⟩
              · rw [if_neg c19] at H
                have c19b0 : (a2_0 == 0) = false := beq_eq_false_iff_ne.mpr c19
                have c19b1 : (a2_0 != 0) = true := bne_iff_ne.mpr c19
                (first | rw [c19b0] | (simp only [i64_w, i32_w]; rw [c19b0]) | skip)
                have H' := Aside0.mk H
                clear H
                go_wp2
                repeat (go_quiet (fail); try go_wp2)
                go_meet
                case rel => exact ⟨_, ((a2_0 == 1)), (by first | rfl | (simp; done) | (simp [*]; done)), H', ⟨by have := HK1.out; have := HJ11.out; first | omega | exact Nat.le_refl _⟩, ⟨by (with_reducible repeat (first | refine blk_drewN ?_ _ | refine blk_drew ?_ | refine blk_alloc ?_ _)); exact BK236.out⟩, ⟨by repeat (first | (with_reducible first | exact HB.out | apply below_alloc | apply pw_below_drewN | apply below_drew1 | refine below_set ?_ GE236.out) | exact HB.out)⟩⟩
            case rest =>
              clear HC17
              try clear c1
              try clear c2
              try clear p2
              try clear q2
              try clear hx2
              try clear c3
              try clear c5
              try clear c5b0
              try clear c6
              try clear c6b0
              try clear p6
              try clear c7
              try clear c7b0
              try clear c9
              try clear c9b0
              try clear c14
              try clear c14b0
              try clear c19
              try clear c19b0
              try clear c19b1
              try clear hcz10_0
              try clear hcz10_1
              try clear hcz10_2
              try clear hcz10_3
              try clear hcz11_0
              try clear hcz11_1
              try clear hcz11_2
              try clear hcz11_3
              try clear hcz13_0
              try clear hcz13_1
              try clear hcz13_2
              try clear hcz13_3
              try clear hcz15_0
              try clear hcz15_1
              try clear hcz15_2
              try clear hcz15_3
              try clear hcz16_0
              try clear hcz16_1
              try clear hcz16_2
              try clear hcz16_3
              try clear hcz18_0
              try clear hcz18_1
              try clear hcz18_2
              try clear hcz18_3
              try clear hcz8_0
              try clear hcz8_1
              try clear hcz8_2
              try clear hcz8_3
              try clear hfz10_0
              try clear hfz10_1
              try clear hfz10_2
              try clear hfz10_3
              try clear hfz11_0
              try clear hfz11_1
              try clear hfz11_2
              try clear hfz11_3
              try clear hfz13_0
              try clear hfz13_1
              try clear hfz13_2
              try clear hfz13_3
              try clear hfz15_0
              try clear hfz15_1
              try clear hfz15_2
              try clear hfz15_3
              try clear hfz16_0
              try clear hfz16_1
              try clear hfz16_2
              try clear hfz16_3
              try clear hfz18_0
              try clear hfz18_1
              try clear hfz18_2
              try clear hfz18_3
              try clear hfz8_0
              try clear hfz8_1
              try clear hfz8_2
              try clear hfz8_3
              try clear hx237_0
              try clear hx238_0
              try clear p2
              try clear p237
              try clear p238
              try clear p6
              try clear q2
              try clear q237
              try clear q238
              obtain ⟨kq, x47_16, rfl, HA, HJ16, BK236, HB⟩ := hcut
              cases kq with
              | zero => exact absurd HA.out (by simp [tammyref03_may.j2])
              | succ kj16 =>
                have H := HA.out
                clear HA
                simp only [tammyref03_may.j2] at H
                by_cases c20 : x47_16 = true
                · subst c20
                  have H1 : (if a2_1 = 0 then (if a2_2 = 0 then (some ((l2_3.length : Int) == 0)) else (some false)) else (some false)) = some r := by rw [if_pos rfl] at H; exact H
                  clear H
                  have H := H1
                  clear H1
                  by_cases c21 : a2_1 = 0
                  · rw [if_pos c21] at H
                    have c21b0 : (a2_1 == 0) = true := beq_iff_eq.mpr c21
                    have c21b1 : (a2_1 != 0) = false := bne_eq_false_iff_eq.mpr c21
                    clear c21
                    by_cases c22 : a2_2 = 0
                    · rw [if_pos c22] at H
                      have c22b0 : (a2_2 == 0) = true := beq_iff_eq.mpr c22
                      have c22b1 : (a2_2 != 0) = false := bne_eq_false_iff_eq.mpr c22
                      clear c22
                      obtain rfl := Option.some.inj H
                      have hcz23_0 : wc.cell? ⟨gb236, 0, none⟩ = some (.int .i64 a2_0) := (blk_cell BK236.out 0).trans rfl
                      have hcz23_1 : wc.cell? ⟨gb236, 1, none⟩ = some (.int .i64 a2_1) := (blk_cell BK236.out 1).trans rfl
                      have hcz23_2 : wc.cell? ⟨gb236, 2, none⟩ = some (.int .i64 a2_2) := (blk_cell BK236.out 2).trans rfl
                      have hcz23_3 : wc.cell? ⟨gb236, 3, none⟩ = some (.slice A2_3 l2_3.length c2_3) := (blk_cell BK236.out 3).trans rfl
                      have hfz23_0 := blk_frozen BK236.out 0
                      have hfz23_1 := blk_frozen BK236.out 1
                      have hfz23_2 := blk_frozen BK236.out 2
                      have hfz23_3 := blk_frozen BK236.out 3
                      go_wp2
                      repeat (go_quiet (fail); try go_wp2)
                      go_ret
                      exact ⟨by first | rfl | (simp [errW_none, errW_some] <;> rfl) | (simp [*, errW_none, errW_some] <;> rfl), by repeat (first | (with_reducible first | exact HB.out | apply below_alloc | apply pw_below_drewN | apply below_drew1 | refine below_set ?_ GE236.out) | exact HB.out)⟩
                    · rw [if_neg c22] at H
                      have c22b0 : (a2_2 == 0) = false := beq_eq_false_iff_ne.mpr c22
                      have c22b1 : (a2_2 != 0) = true := bne_iff_ne.mpr c22
                      obtain rfl := Option.some.inj H
                      have hcz24_0 : wc.cell? ⟨gb236, 0, none⟩ = some (.int .i64 a2_0) := (blk_cell BK236.out 0).trans rfl
                      have hcz24_1 : wc.cell? ⟨gb236, 1, none⟩ = some (.int .i64 a2_1) := (blk_cell BK236.out 1).trans rfl
                      have hcz24_2 : wc.cell? ⟨gb236, 2, none⟩ = some (.int .i64 a2_2) := (blk_cell BK236.out 2).trans rfl
                      have hcz24_3 : wc.cell? ⟨gb236, 3, none⟩ = some (.slice A2_3 l2_3.length c2_3) := (blk_cell BK236.out 3).trans rfl
                      have hfz24_0 := blk_frozen BK236.out 0
                      have hfz24_1 := blk_frozen BK236.out 1
                      have hfz24_2 := blk_frozen BK236.out 2
                      have hfz24_3 := blk_frozen BK236.out 3
                      go_wp2
                      repeat (go_quiet (fail); try go_wp2)
                      go_ret
                      exact ⟨by first | rfl | (simp [errW_none, errW_some] <;> rfl) | (simp [*, errW_none, errW_some] <;> rfl), by repeat (first | (with_reducible first | exact HB.out | apply below_alloc | apply pw_below_drewN | apply below_drew1 | refine below_set ?_ GE236.out) | exact HB.out)⟩
                  · rw [if_neg c21] at H
                    have c21b0 : (a2_1 == 0) = false := beq_eq_false_iff_ne.mpr c21
                    have c21b1 : (a2_1 != 0) = true := bne_iff_ne.mpr c21
                    obtain rfl := Option.some.inj H
                    have hcz25_0 : wc.cell? ⟨gb236, 0, none⟩ = some (.int .i64 a2_0) := (blk_cell BK236.out 0).trans rfl
                    have hcz25_1 : wc.cell? ⟨gb236, 1, none⟩ = some (.int .i64 a2_1) := (blk_cell BK236.out 1).trans rfl
                    have hcz25_2 : wc.cell? ⟨gb236, 2, none⟩ = some (.int .i64 a2_2) := (blk_cell BK236.out 2).trans rfl
                    have hcz25_3 : wc.cell? ⟨gb236, 3, none⟩ = some (.slice A2_3 l2_3.length c2_3) := (blk_cell BK236.out 3).trans rfl
                    have hfz25_0 := blk_frozen BK236.out 0
                    have hfz25_1 := blk_frozen BK236.out 1
                    have hfz25_2 := blk_frozen BK236.out 2
                    have hfz25_3 := blk_frozen BK236.out 3
                    go_wp2
                    repeat (go_quiet (fail); try go_wp2)
                    go_ret
                    exact ⟨by first | rfl | (simp [errW_none, errW_some] <;> rfl) | (simp [*, errW_none, errW_some] <;> rfl), by repeat (first | (with_reducible first | exact HB.out | apply below_alloc | apply pw_below_drewN | apply below_drew1 | refine below_set ?_ GE236.out) | exact HB.out)⟩
                · replace c20 := Bool.eq_false_iff.mpr c20
                  subst c20
                  have H1 : (if a2_0 = 2 then (if a2_1 ≥ 0 then (if a2_2 = 0 then (some ((l2_3.length : Int) == 0)) else (some false)) else (some false)) else (if a2_0 = 3 then (if x9_11 = true then (if a2_2 = 0 then (if 0 ≤ a2_1 then (if a2_1 < (l0.length : Int) then (some ((l2_3.length : Int) == (((rd_T62 l0 a2_1).f1).size : Int))) else (none)) else (none)) else (some false)) else (some false)) else (if a2_0 = 4 then (tammyref03_may.j3 kj16 l0 (l2_3.length : Int) x9_11 a2_0 (a2_0 == 4) a2_0 a2_1 a2_2 l2_3) else (tammyref03_may.j3 kj16 l0 (l2_3.length : Int) x9_11 a2_0 (a2_0 == 5) a2_0 a2_1 a2_2 l2_3)))) = some r := by rw [if_neg (show ¬ (false = true) by decide)] at H; exact H
                  clear H
                  have H := H1
                  clear H1
                  by_cases c26 : a2_0 = 2
                  · rw [if_pos c26] at H
                    have c26b0 : (a2_0 == 2) = true := beq_iff_eq.mpr c26
                    have c26b1 : (a2_0 != 2) = false := bne_eq_false_iff_eq.mpr c26
                    clear c26
                    by_cases c27 : a2_1 ≥ 0
                    · rw [if_pos c27] at H
                      have c27b0 : decide (0 ≤ a2_1) = true := decide_eq_true c27
                      clear c27
                      by_cases c28 : a2_2 = 0
                      · rw [if_pos c28] at H
                        have c28b0 : (a2_2 == 0) = true := beq_iff_eq.mpr c28
                        have c28b1 : (a2_2 != 0) = false := bne_eq_false_iff_eq.mpr c28
                        clear c28
                        obtain rfl := Option.some.inj H
                        have hcz29_0 : wc.cell? ⟨gb236, 0, none⟩ = some (.int .i64 a2_0) := (blk_cell BK236.out 0).trans rfl
                        have hcz29_1 : wc.cell? ⟨gb236, 1, none⟩ = some (.int .i64 a2_1) := (blk_cell BK236.out 1).trans rfl
                        have hcz29_2 : wc.cell? ⟨gb236, 2, none⟩ = some (.int .i64 a2_2) := (blk_cell BK236.out 2).trans rfl
                        have hcz29_3 : wc.cell? ⟨gb236, 3, none⟩ = some (.slice A2_3 l2_3.length c2_3) := (blk_cell BK236.out 3).trans rfl
                        have hfz29_0 := blk_frozen BK236.out 0
                        have hfz29_1 := blk_frozen BK236.out 1
                        have hfz29_2 := blk_frozen BK236.out 2
                        have hfz29_3 := blk_frozen BK236.out 3
                        go_wp2
                        repeat (go_quiet (fail); try go_wp2)
                        go_ret
                        exact ⟨by first | rfl | (simp [errW_none, errW_some] <;> rfl) | (simp [*, errW_none, errW_some] <;> rfl), by repeat (first | (with_reducible first | exact HB.out | apply below_alloc | apply pw_below_drewN | apply below_drew1 | refine below_set ?_ GE236.out) | exact HB.out)⟩
                      · rw [if_neg c28] at H
                        have c28b0 : (a2_2 == 0) = false := beq_eq_false_iff_ne.mpr c28
                        have c28b1 : (a2_2 != 0) = true := bne_iff_ne.mpr c28
                        obtain rfl := Option.some.inj H
                        have hcz30_0 : wc.cell? ⟨gb236, 0, none⟩ = some (.int .i64 a2_0) := (blk_cell BK236.out 0).trans rfl
                        have hcz30_1 : wc.cell? ⟨gb236, 1, none⟩ = some (.int .i64 a2_1) := (blk_cell BK236.out 1).trans rfl
                        have hcz30_2 : wc.cell? ⟨gb236, 2, none⟩ = some (.int .i64 a2_2) := (blk_cell BK236.out 2).trans rfl
                        have hcz30_3 : wc.cell? ⟨gb236, 3, none⟩ = some (.slice A2_3 l2_3.length c2_3) := (blk_cell BK236.out 3).trans rfl
                        have hfz30_0 := blk_frozen BK236.out 0
                        have hfz30_1 := blk_frozen BK236.out 1
                        have hfz30_2 := blk_frozen BK236.out 2
                        have hfz30_3 := blk_frozen BK236.out 3
                        go_wp2
                        repeat (go_quiet (fail); try go_wp2)
                        go_ret
                        exact ⟨by first | rfl | (simp [errW_none, errW_some] <;> rfl) | (simp [*, errW_none, errW_some] <;> rfl), by repeat (first | (with_reducible first | exact HB.out | apply below_alloc | apply pw_below_drewN | apply below_drew1 | refine below_set ?_ GE236.out) | exact HB.out)⟩
                    · rw [if_neg c27] at H
                      have c27b0 : decide (0 ≤ a2_1) = false := decide_eq_false c27
                      clear c27
                      obtain rfl := Option.some.inj H
                      have hcz31_0 : wc.cell? ⟨gb236, 0, none⟩ = some (.int .i64 a2_0) := (blk_cell BK236.out 0).trans rfl
                      have hcz31_1 : wc.cell? ⟨gb236, 1, none⟩ = some (.int .i64 a2_1) := (blk_cell BK236.out 1).trans rfl
                      have hcz31_2 : wc.cell? ⟨gb236, 2, none⟩ = some (.int .i64 a2_2) := (blk_cell BK236.out 2).trans rfl
                      have hcz31_3 : wc.cell? ⟨gb236, 3, none⟩ = some (.slice A2_3 l2_3.length c2_3) := (blk_cell BK236.out 3).trans rfl
                      have hfz31_0 := blk_frozen BK236.out 0
                      have hfz31_1 := blk_frozen BK236.out 1
                      have hfz31_2 := blk_frozen BK236.out 2
                      have hfz31_3 := blk_frozen BK236.out 3
                      go_wp2
                      repeat (go_quiet (fail); try go_wp2)
                      go_ret
                      exact ⟨by first | rfl | (simp [errW_none, errW_some] <;> rfl) | (simp [*, errW_none, errW_some] <;> rfl), by repeat (first | (with_reducible first | exact HB.out | apply below_alloc | apply pw_below_drewN | apply below_drew1 | refine below_set ?_ GE236.out) | exact HB.out)⟩
                  · rw [if_neg c26] at H
                    have c26b0 : (a2_0 == 2) = false := beq_eq_false_iff_ne.mpr c26
                    have c26b1 : (a2_0 != 2) = true := bne_iff_ne.mpr c26
                    by_cases c32 : a2_0 = 3
                    · rw [if_pos c32] at H
                      have c32b0 : (a2_0 == 3) = true := beq_iff_eq.mpr c32
                      have c32b1 : (a2_0 != 3) = false := bne_eq_false_iff_eq.mpr c32
                      clear c32
                      by_cases c33 : x9_11 = true
                      · subst c33
                        have H1 : (if a2_2 = 0 then (if 0 ≤ a2_1 then (if a2_1 < (l0.length : Int) then (some ((l2_3.length : Int) == (((rd_T62 l0 a2_1).f1).size : Int))) else (none)) else (none)) else (some false)) = some r := by rw [if_pos rfl] at H; exact H
                        clear H
                        have H := H1
                        clear H1
                        by_cases c34 : a2_2 = 0
                        · rw [if_pos c34] at H
                          have c34b0 : (a2_2 == 0) = true := beq_iff_eq.mpr c34
                          have c34b1 : (a2_2 != 0) = false := bne_eq_false_iff_eq.mpr c34
                          clear c34
                          by_cases c35 : 0 ≤ a2_1
                          · rw [if_pos c35] at H
                            have c35b0 : decide (0 ≤ a2_1) = true := decide_eq_true c35
                            clear c35
                            by_cases c36 : a2_1 < (l0.length : Int)
                            · rw [if_pos c36] at H
                              have c36b0 : decide (a2_1 < (l0.length : Int)) = true := decide_eq_true c36
                              clear c36
                              obtain rfl := Option.some.inj H
                              have hcz37_0 : wc.cell? ⟨gb236, 0, none⟩ = some (.int .i64 a2_0) := (blk_cell BK236.out 0).trans rfl
                              have hcz37_1 : wc.cell? ⟨gb236, 1, none⟩ = some (.int .i64 a2_1) := (blk_cell BK236.out 1).trans rfl
                              have hcz37_2 : wc.cell? ⟨gb236, 2, none⟩ = some (.int .i64 a2_2) := (blk_cell BK236.out 2).trans rfl
                              have hcz37_3 : wc.cell? ⟨gb236, 3, none⟩ = some (.slice A2_3 l2_3.length c2_3) := (blk_cell BK236.out 3).trans rfl
                              have hfz37_0 := blk_frozen BK236.out 0
                              have hfz37_1 := blk_frozen BK236.out 1
                              have hfz37_2 := blk_frozen BK236.out 2
                              have hfz37_3 := blk_frozen BK236.out 3
                              have p239 : 0 ≤ (a2_1 : Int) := of_decide_eq_true (by first | (with_reducible assumption) | assumption)
                              have q239 : a2_1 < (l0.length : Int) := of_decide_eq_true (by first | (with_reducible assumption) | assumption)
                              obtain ⟨ad239, e239, hx239_0, hx239_1⟩ := at_T62 HR0.out a2_1 p239 q239
                              cases e239
                              replace hx239_0 := (HB.out.cell (World.block_lt_of_cell? w _ hx239_0)).trans hx239_0
                              replace hx239_1 := (HB.out.cell (World.block_lt_of_cell? w _ hx239_1)).trans hx239_1
                              replace p239 := eq_true p239
                              replace q239 := eq_true q239
                              go_wp2
                              repeat (go_quiet (fail); try go_wp2)
                              go_ret
                              exact ⟨by first | rfl | (simp [errW_none, errW_some] <;> rfl) | (simp [*, errW_none, errW_some] <;> rfl), by repeat (first | (with_reducible first | exact HB.out | apply below_alloc | apply pw_below_drewN | apply below_drew1 | refine below_set ?_ GE236.out) | exact HB.out)⟩
                            · rw [if_neg c36] at H
                              exact absurd H (by simp)
                          · rw [if_neg c35] at H
                            exact absurd H (by simp)
                        · rw [if_neg c34] at H
                          have c34b0 : (a2_2 == 0) = false := beq_eq_false_iff_ne.mpr c34
                          have c34b1 : (a2_2 != 0) = true := bne_iff_ne.mpr c34
                          obtain rfl := Option.some.inj H
                          have hcz38_0 : wc.cell? ⟨gb236, 0, none⟩ = some (.int .i64 a2_0) := (blk_cell BK236.out 0).trans rfl
                          have hcz38_1 : wc.cell? ⟨gb236, 1, none⟩ = some (.int .i64 a2_1) := (blk_cell BK236.out 1).trans rfl
                          have hcz38_2 : wc.cell? ⟨gb236, 2, none⟩ = some (.int .i64 a2_2) := (blk_cell BK236.out 2).trans rfl
                          have hcz38_3 : wc.cell? ⟨gb236, 3, none⟩ = some (.slice A2_3 l2_3.length c2_3) := (blk_cell BK236.out 3).trans rfl
                          have hfz38_0 := blk_frozen BK236.out 0
                          have hfz38_1 := blk_frozen BK236.out 1
                          have hfz38_2 := blk_frozen BK236.out 2
                          have hfz38_3 := blk_frozen BK236.out 3
                          go_wp2
                          repeat (go_quiet (fail); try go_wp2)
                          go_ret
                          exact ⟨by first | rfl | (simp [errW_none, errW_some] <;> rfl) | (simp [*, errW_none, errW_some] <;> rfl), by repeat (first | (with_reducible first | exact HB.out | apply below_alloc | apply pw_below_drewN | apply below_drew1 | refine below_set ?_ GE236.out) | exact HB.out)⟩
                      · replace c33 := Bool.eq_false_iff.mpr c33
                        subst c33
                        have H1 : (some false) = some r := by rw [if_neg (show ¬ (false = true) by decide)] at H; exact H
                        clear H
                        have H := H1
                        clear H1
                        obtain rfl := Option.some.inj H
                        go_wp2
                        repeat (go_quiet (fail); try go_wp2)
                        go_ret
                        exact ⟨by first | rfl | (simp [errW_none, errW_some] <;> rfl) | (simp [*, errW_none, errW_some] <;> rfl), by repeat (first | (with_reducible first | exact HB.out | apply below_alloc | apply pw_below_drewN | apply below_drew1 | refine below_set ?_ GE236.out) | exact HB.out)⟩
                    · rw [if_neg c32] at H
                      have c32b0 : (a2_0 == 3) = false := beq_eq_false_iff_ne.mpr c32
                      have c32b1 : (a2_0 != 3) = true := bne_iff_ne.mpr c32
                      have HC39 := Aside0.mk H
                      clear H
                      go_upto_if 95 with (fail)
                      repeat (go_quiet (fail); go_upto_if 95 with (fail))
                      go_cut [95] (fun v95 wc => ∃ (kq : Nat) (x95_38 : Bool), v95 = .bool x95_38 ∧ Aside0 (tammyref03_may.j3 kq l0 (l2_3.length : Int) x9_11 a2_0 x95_38 a2_0 a2_1 a2_2 l2_3 = some r) ∧ Aside0 (kq ≤ kj16) ∧ Aside0 (wc.heap[gb236]? = some (.cells #[.int .i64 a2_0, .int .i64 a2_1, .int .i64 a2_2, (.slice A2_3 l2_3.length c2_3)] 28 (0, 0))) ∧ Aside0 (Below w.heap.size w wc))
                      case first =>
                        have H := HC39.out
                        clear HC39
                        by_cases c40 : a2_0 = 4
                        · rw [if_pos c40] at H
                          have c40b0 : (a2_0 == 4) = true := beq_iff_eq.mpr c40
                          have c40b1 : (a2_0 != 4) = false := bne_eq_false_iff_eq.mpr c40
                          clear c40
                          (first | rw [c40b0] | (simp only [i64_w, i32_w]; rw [c40b0]) | skip)
                          have H' := Aside0.mk H
                          clear H
                          go_wp2
                          repeat (go_quiet (fail); try go_wp2)
                          go_meet
                          case rel => exact ⟨_, ((a2_0 == 4)), (by first | rfl | (simp; done) | (simp [*]; done)), H', ⟨by have := HK1.out; have := HJ11.out; have := HJ16.out; first | omega | exact Nat.le_refl _⟩, ⟨by (with_reducible repeat (first | refine blk_drewN ?_ _ | refine blk_drew ?_ | refine blk_alloc ?_ _)); exact BK236.out⟩, ⟨by repeat (first | (with_reducible first | exact HB.out | apply below_alloc | apply pw_below_drewN | apply below_drew1 | refine below_set ?_ GE236.out) | exact HB.out)⟩⟩
                        · rw [if_neg c40] at H
                          have c40b0 : (a2_0 == 4) = false := beq_eq_false_iff_ne.mpr c40
                          have c40b1 : (a2_0 != 4) = true := bne_iff_ne.mpr c40
                          (first | rw [c40b0] | (simp only [i64_w, i32_w]; rw [c40b0]) | skip)
                          have H' := Aside0.mk H
                          clear H
                          go_wp2
                          repeat (go_quiet (fail); try go_wp2)
                          go_meet
                          case rel => exact ⟨_, ((a2_0 == 5)), (by first | rfl | (simp; done) | (simp [*]; done)), H', ⟨by have := HK1.out; have := HJ11.out; have := HJ16.out; first | omega | exact Nat.le_refl _⟩, ⟨by (with_reducible repeat (first | refine blk_drewN ?_ _ | refine blk_drew ?_ | refine blk_alloc ?_ _)); exact BK236.out⟩, ⟨by repeat (first | (with_reducible first | exact HB.out | apply below_alloc | apply pw_below_drewN | apply below_drew1 | refine below_set ?_ GE236.out) | exact HB.out)⟩⟩
                      case rest =>
                        clear HC39
                        try clear c1
                        try clear c2
                        try clear p2
                        try clear q2
                        try clear hx2
                        try clear c3
                        try clear c4
                        try clear c5
                        try clear c5b0
                        try clear c6
                        try clear c6b0
                        try clear p6
                        try clear c7
                        try clear c7b0
                        try clear c9
                        try clear c9b0
                        try clear c14
                        try clear c14b0
                        try clear c19
                        try clear c19b0
                        try clear c19b1
                        try clear c20
                        try clear c21
                        try clear c21b0
                        try clear c21b1
                        try clear c22
                        try clear c22b0
                        try clear c22b1
                        try clear p23
                        try clear q23
                        try clear hx23
                        try clear c26
                        try clear c26b0
                        try clear c26b1
                        try clear c27
                        try clear c27b0
                        try clear c28
                        try clear c28b0
                        try clear c28b1
                        try clear c32
                        try clear c32b0
                        try clear c32b1
                        try clear c33
                        try clear c34
                        try clear c34b0
                        try clear c34b1
                        try clear c35
                        try clear c35b0
                        try clear c36
                        try clear c36b0
                        try clear c40
                        try clear c40b0
                        try clear c40b1
                        try clear hcz10_0
                        try clear hcz10_1
                        try clear hcz10_2
                        try clear hcz10_3
                        try clear hcz11_0
                        try clear hcz11_1
                        try clear hcz11_2
                        try clear hcz11_3
                        try clear hcz13_0
                        try clear hcz13_1
                        try clear hcz13_2
                        try clear hcz13_3
                        try clear hcz15_0
                        try clear hcz15_1
                        try clear hcz15_2
                        try clear hcz15_3
                        try clear hcz16_0
                        try clear hcz16_1
                        try clear hcz16_2
                        try clear hcz16_3
                        try clear hcz18_0
                        try clear hcz18_1
                        try clear hcz18_2
                        try clear hcz18_3
                        try clear hcz23_0
                        try clear hcz23_1
                        try clear hcz23_2
                        try clear hcz23_3
                        try clear hcz24_0
                        try clear hcz24_1
                        try clear hcz24_2
                        try clear hcz24_3
                        try clear hcz25_0
                        try clear hcz25_1
                        try clear hcz25_2
                        try clear hcz25_3
                        try clear hcz29_0
                        try clear hcz29_1
                        try clear hcz29_2
                        try clear hcz29_3
                        try clear hcz30_0
                        try clear hcz30_1
                        try clear hcz30_2
                        try clear hcz30_3
                        try clear hcz31_0
                        try clear hcz31_1
                        try clear hcz31_2
                        try clear hcz31_3
                        try clear hcz37_0
                        try clear hcz37_1
                        try clear hcz37_2
                        try clear hcz37_3
                        try clear hcz38_0
                        try clear hcz38_1
                        try clear hcz38_2
                        try clear hcz38_3
                        try clear hcz8_0
                        try clear hcz8_1
                        try clear hcz8_2
                        try clear hcz8_3
                        try clear hfz10_0
                        try clear hfz10_1
                        try clear hfz10_2
                        try clear hfz10_3
                        try clear hfz11_0
                        try clear hfz11_1
                        try clear hfz11_2
                        try clear hfz11_3
                        try clear hfz13_0
                        try clear hfz13_1
                        try clear hfz13_2
                        try clear hfz13_3
                        try clear hfz15_0
                        try clear hfz15_1
                        try clear hfz15_2
                        try clear hfz15_3
                        try clear hfz16_0
                        try clear hfz16_1
                        try clear hfz16_2
                        try clear hfz16_3
                        try clear hfz18_0
                        try clear hfz18_1
                        try clear hfz18_2
                        try clear hfz18_3
                        try clear hfz23_0
                        try clear hfz23_1
                        try clear hfz23_2
                        try clear hfz23_3
                        try clear hfz24_0
                        try clear hfz24_1
                        try clear hfz24_2
                        try clear hfz24_3
                        try clear hfz25_0
                        try clear hfz25_1
                        try clear hfz25_2
                        try clear hfz25_3
                        try clear hfz29_0
                        try clear hfz29_1
                        try clear hfz29_2
                        try clear hfz29_3
                        try clear hfz30_0
                        try clear hfz30_1
                        try clear hfz30_2
                        try clear hfz30_3
                        try clear hfz31_0
                        try clear hfz31_1
                        try clear hfz31_2
                        try clear hfz31_3
                        try clear hfz37_0
                        try clear hfz37_1
                        try clear hfz37_2
                        try clear hfz37_3
                        try clear hfz38_0
                        try clear hfz38_1
                        try clear hfz38_2
                        try clear hfz38_3
                        try clear hfz8_0
                        try clear hfz8_1
                        try clear hfz8_2
                        try clear hfz8_3
                        try clear hx237_0
                        try clear hx238_0
                        try clear hx239_0
                        try clear hx239_1
                        try clear p2
                        try clear p237
                        try clear p238
                        try clear p239
                        try clear p6
                        try clear q2
                        try clear q237
                        try clear q238
                        try clear q239
                        obtain ⟨kq, x95_38, rfl, HA, HJ38, BK236, HB⟩ := hcut
                        cases kq with
                        | zero => exact absurd HA.out (by simp [tammyref03_may.j3])
                        | succ kj38 =>
                          have H := HA.out
                          clear HA
                          simp only [tammyref03_may.j3] at H
                          by_cases c41 : x95_38 = true
                          · subst c41
                            have H1 : (if a2_1 = 0 then (if a2_2 = 0 then (some ((l2_3.length : Int) == 2)) else (some false)) else (some false)) = some r := by rw [if_pos rfl] at H; exact H
                            clear H
                            have H := H1
                            clear H1
                            by_cases c42 : a2_1 = 0
                            · rw [if_pos c42] at H
                              have c42b0 : (a2_1 == 0) = true := beq_iff_eq.mpr c42
                              have c42b1 : (a2_1 != 0) = false := bne_eq_false_iff_eq.mpr c42
                              clear c42
                              by_cases c43 : a2_2 = 0
                              · rw [if_pos c43] at H
                                have c43b0 : (a2_2 == 0) = true := beq_iff_eq.mpr c43
                                have c43b1 : (a2_2 != 0) = false := bne_eq_false_iff_eq.mpr c43
                                clear c43
                                obtain rfl := Option.some.inj H
                                have hcz44_0 : wc.cell? ⟨gb236, 0, none⟩ = some (.int .i64 a2_0) := (blk_cell BK236.out 0).trans rfl
                                have hcz44_1 : wc.cell? ⟨gb236, 1, none⟩ = some (.int .i64 a2_1) := (blk_cell BK236.out 1).trans rfl
                                have hcz44_2 : wc.cell? ⟨gb236, 2, none⟩ = some (.int .i64 a2_2) := (blk_cell BK236.out 2).trans rfl
                                have hcz44_3 : wc.cell? ⟨gb236, 3, none⟩ = some (.slice A2_3 l2_3.length c2_3) := (blk_cell BK236.out 3).trans rfl
                                have hfz44_0 := blk_frozen BK236.out 0
                                have hfz44_1 := blk_frozen BK236.out 1
                                have hfz44_2 := blk_frozen BK236.out 2
                                have hfz44_3 := blk_frozen BK236.out 3
                                go_wp2
                                repeat (go_quiet (fail); try go_wp2)
                                go_ret
                                exact ⟨by first | rfl | (simp [errW_none, errW_some] <;> rfl) | (simp [*, errW_none, errW_some] <;> rfl), by repeat (first | (with_reducible first | exact HB.out | apply below_alloc | apply pw_below_drewN | apply below_drew1 | refine below_set ?_ GE236.out) | exact HB.out)⟩
                              · rw [if_neg c43] at H
                                have c43b0 : (a2_2 == 0) = false := beq_eq_false_iff_ne.mpr c43
                                have c43b1 : (a2_2 != 0) = true := bne_iff_ne.mpr c43
                                obtain rfl := Option.some.inj H
                                have hcz45_0 : wc.cell? ⟨gb236, 0, none⟩ = some (.int .i64 a2_0) := (blk_cell BK236.out 0).trans rfl
                                have hcz45_1 : wc.cell? ⟨gb236, 1, none⟩ = some (.int .i64 a2_1) := (blk_cell BK236.out 1).trans rfl
                                have hcz45_2 : wc.cell? ⟨gb236, 2, none⟩ = some (.int .i64 a2_2) := (blk_cell BK236.out 2).trans rfl
                                have hcz45_3 : wc.cell? ⟨gb236, 3, none⟩ = some (.slice A2_3 l2_3.length c2_3) := (blk_cell BK236.out 3).trans rfl
                                have hfz45_0 := blk_frozen BK236.out 0
                                have hfz45_1 := blk_frozen BK236.out 1
                                have hfz45_2 := blk_frozen BK236.out 2
                                have hfz45_3 := blk_frozen BK236.out 3
                                go_wp2
                                repeat (go_quiet (fail); try go_wp2)
                                go_ret
                                exact ⟨by first | rfl | (simp [errW_none, errW_some] <;> rfl) | (simp [*, errW_none, errW_some] <;> rfl), by repeat (first | (with_reducible first | exact HB.out | apply below_alloc | apply pw_below_drewN | apply below_drew1 | refine below_set ?_ GE236.out) | exact HB.out)⟩
                            · rw [if_neg c42] at H
                              have c42b0 : (a2_1 == 0) = false := beq_eq_false_iff_ne.mpr c42
                              have c42b1 : (a2_1 != 0) = true := bne_iff_ne.mpr c42
                              obtain rfl := Option.some.inj H
                              have hcz46_0 : wc.cell? ⟨gb236, 0, none⟩ = some (.int .i64 a2_0) := (blk_cell BK236.out 0).trans rfl
                              have hcz46_1 : wc.cell? ⟨gb236, 1, none⟩ = some (.int .i64 a2_1) := (blk_cell BK236.out 1).trans rfl
                              have hcz46_2 : wc.cell? ⟨gb236, 2, none⟩ = some (.int .i64 a2_2) := (blk_cell BK236.out 2).trans rfl
                              have hcz46_3 : wc.cell? ⟨gb236, 3, none⟩ = some (.slice A2_3 l2_3.length c2_3) := (blk_cell BK236.out 3).trans rfl
                              have hfz46_0 := blk_frozen BK236.out 0
                              have hfz46_1 := blk_frozen BK236.out 1
                              have hfz46_2 := blk_frozen BK236.out 2
                              have hfz46_3 := blk_frozen BK236.out 3
                              go_wp2
                              repeat (go_quiet (fail); try go_wp2)
                              go_ret
                              exact ⟨by first | rfl | (simp [errW_none, errW_some] <;> rfl) | (simp [*, errW_none, errW_some] <;> rfl), by repeat (first | (with_reducible first | exact HB.out | apply below_alloc | apply pw_below_drewN | apply below_drew1 | refine below_set ?_ GE236.out) | exact HB.out)⟩
                          · replace c41 := Bool.eq_false_iff.mpr c41
                            subst c41
                            have H1 : (if a2_0 = 6 then (if x9_11 = true then (if a2_2 ≥ 0 then (if 0 ≤ a2_1 then (if a2_1 < (l0.length : Int) then (if a2_2 < (((rd_T62 l0 a2_1).f1).size : Int) then (some ((l2_3.length : Int) == 1)) else (some false)) else (none)) else (none)) else (some false)) else (some false)) else (some false)) = some r := by rw [if_neg (show ¬ (false = true) by decide)] at H; exact H
                            clear H
                            have H := H1
                            clear H1
                            by_cases c47 : a2_0 = 6
                            · rw [if_pos c47] at H
                              have c47b0 : (a2_0 == 6) = true := beq_iff_eq.mpr c47
                              have c47b1 : (a2_0 != 6) = false := bne_eq_false_iff_eq.mpr c47
                              clear c47
                              by_cases c48 : x9_11 = true
                              · subst c48
                                have H1 : (if a2_2 ≥ 0 then (if 0 ≤ a2_1 then (if a2_1 < (l0.length : Int) then (if a2_2 < (((rd_T62 l0 a2_1).f1).size : Int) then (some ((l2_3.length : Int) == 1)) else (some false)) else (none)) else (none)) else (some false)) = some r := by rw [if_pos rfl] at H; exact H
                                clear H
                                have H := H1
                                clear H1
                                by_cases c49 : a2_2 ≥ 0
                                · rw [if_pos c49] at H
                                  have c49b0 : decide (0 ≤ a2_2) = true := decide_eq_true c49
                                  clear c49
                                  by_cases c50 : 0 ≤ a2_1
                                  · rw [if_pos c50] at H
                                    have c50b0 : decide (0 ≤ a2_1) = true := decide_eq_true c50
                                    clear c50
                                    by_cases c51 : a2_1 < (l0.length : Int)
                                    · rw [if_pos c51] at H
                                      have c51b0 : decide (a2_1 < (l0.length : Int)) = true := decide_eq_true c51
                                      clear c51
                                      by_cases c52 : a2_2 < (((rd_T62 l0 a2_1).f1).size : Int)
                                      · rw [if_pos c52] at H
                                        have c52b0 : decide (a2_2 < (((rd_T62 l0 a2_1).f1).size : Int)) = true := decide_eq_true c52
                                        clear c52
                                        obtain rfl := Option.some.inj H
                                        have hcz53_0 : wc.cell? ⟨gb236, 0, none⟩ = some (.int .i64 a2_0) := (blk_cell BK236.out 0).trans rfl
                                        have hcz53_1 : wc.cell? ⟨gb236, 1, none⟩ = some (.int .i64 a2_1) := (blk_cell BK236.out 1).trans rfl
                                        have hcz53_2 : wc.cell? ⟨gb236, 2, none⟩ = some (.int .i64 a2_2) := (blk_cell BK236.out 2).trans rfl
                                        have hcz53_3 : wc.cell? ⟨gb236, 3, none⟩ = some (.slice A2_3 l2_3.length c2_3) := (blk_cell BK236.out 3).trans rfl
                                        have hfz53_0 := blk_frozen BK236.out 0
                                        have hfz53_1 := blk_frozen BK236.out 1
                                        have hfz53_2 := blk_frozen BK236.out 2
                                        have hfz53_3 := blk_frozen BK236.out 3
                                        have p240 : 0 ≤ (a2_1 : Int) := of_decide_eq_true (by first | (with_reducible assumption) | assumption)
                                        have q240 : a2_1 < (l0.length : Int) := of_decide_eq_true (by first | (with_reducible assumption) | assumption)
                                        obtain ⟨ad240, e240, hx240_0, hx240_1⟩ := at_T62 HR0.out a2_1 p240 q240
                                        cases e240
                                        replace hx240_0 := (HB.out.cell (World.block_lt_of_cell? w _ hx240_0)).trans hx240_0
                                        replace hx240_1 := (HB.out.cell (World.block_lt_of_cell? w _ hx240_1)).trans hx240_1
                                        replace p240 := eq_true p240
                                        replace q240 := eq_true q240
                                        go_wp2
                                        repeat (go_quiet (fail); try go_wp2)
                                        go_ret
                                        exact ⟨by first | rfl | (simp [errW_none, errW_some] <;> rfl) | (simp [*, errW_none, errW_some] <;> rfl), by repeat (first | (with_reducible first | exact HB.out | apply below_alloc | apply pw_below_drewN | apply below_drew1 | refine below_set ?_ GE236.out) | exact HB.out)⟩
                                      · rw [if_neg c52] at H
                                        have c52b0 : decide (a2_2 < (((rd_T62 l0 a2_1).f1).size : Int)) = false := decide_eq_false c52
                                        clear c52
                                        obtain rfl := Option.some.inj H
                                        have hcz54_0 : wc.cell? ⟨gb236, 0, none⟩ = some (.int .i64 a2_0) := (blk_cell BK236.out 0).trans rfl
                                        have hcz54_1 : wc.cell? ⟨gb236, 1, none⟩ = some (.int .i64 a2_1) := (blk_cell BK236.out 1).trans rfl
                                        have hcz54_2 : wc.cell? ⟨gb236, 2, none⟩ = some (.int .i64 a2_2) := (blk_cell BK236.out 2).trans rfl
                                        have hcz54_3 : wc.cell? ⟨gb236, 3, none⟩ = some (.slice A2_3 l2_3.length c2_3) := (blk_cell BK236.out 3).trans rfl
                                        have hfz54_0 := blk_frozen BK236.out 0
                                        have hfz54_1 := blk_frozen BK236.out 1
                                        have hfz54_2 := blk_frozen BK236.out 2
                                        have hfz54_3 := blk_frozen BK236.out 3
                                        have p240 : 0 ≤ (a2_1 : Int) := of_decide_eq_true (by first | (with_reducible assumption) | assumption)
                                        have q240 : a2_1 < (l0.length : Int) := of_decide_eq_true (by first | (with_reducible assumption) | assumption)
                                        obtain ⟨ad240, e240, hx240_0, hx240_1⟩ := at_T62 HR0.out a2_1 p240 q240
                                        cases e240
                                        replace hx240_0 := (HB.out.cell (World.block_lt_of_cell? w _ hx240_0)).trans hx240_0
                                        replace hx240_1 := (HB.out.cell (World.block_lt_of_cell? w _ hx240_1)).trans hx240_1
                                        replace p240 := eq_true p240
                                        replace q240 := eq_true q240
                                        go_wp2
                                        repeat (go_quiet (fail); try go_wp2)
                                        go_ret
                                        exact ⟨by first | rfl | (simp [errW_none, errW_some] <;> rfl) | (simp [*, errW_none, errW_some] <;> rfl), by repeat (first | (with_reducible first | exact HB.out | apply below_alloc | apply pw_below_drewN | apply below_drew1 | refine below_set ?_ GE236.out) | exact HB.out)⟩
                                    · rw [if_neg c51] at H
                                      exact absurd H (by simp)
                                  · rw [if_neg c50] at H
                                    exact absurd H (by simp)
                                · rw [if_neg c49] at H
                                  have c49b0 : decide (0 ≤ a2_2) = false := decide_eq_false c49
                                  clear c49
                                  obtain rfl := Option.some.inj H
                                  have hcz55_0 : wc.cell? ⟨gb236, 0, none⟩ = some (.int .i64 a2_0) := (blk_cell BK236.out 0).trans rfl
                                  have hcz55_1 : wc.cell? ⟨gb236, 1, none⟩ = some (.int .i64 a2_1) := (blk_cell BK236.out 1).trans rfl
                                  have hcz55_2 : wc.cell? ⟨gb236, 2, none⟩ = some (.int .i64 a2_2) := (blk_cell BK236.out 2).trans rfl
                                  have hcz55_3 : wc.cell? ⟨gb236, 3, none⟩ = some (.slice A2_3 l2_3.length c2_3) := (blk_cell BK236.out 3).trans rfl
                                  have hfz55_0 := blk_frozen BK236.out 0
                                  have hfz55_1 := blk_frozen BK236.out 1
                                  have hfz55_2 := blk_frozen BK236.out 2
                                  have hfz55_3 := blk_frozen BK236.out 3
                                  go_wp2
                                  repeat (go_quiet (fail); try go_wp2)
                                  go_ret
                                  exact ⟨by first | rfl | (simp [errW_none, errW_some] <;> rfl) | (simp [*, errW_none, errW_some] <;> rfl), by repeat (first | (with_reducible first | exact HB.out | apply below_alloc | apply pw_below_drewN | apply below_drew1 | refine below_set ?_ GE236.out) | exact HB.out)⟩
                              · replace c48 := Bool.eq_false_iff.mpr c48
                                subst c48
                                have H1 : (some false) = some r := by rw [if_neg (show ¬ (false = true) by decide)] at H; exact H
                                clear H
                                have H := H1
                                clear H1
                                obtain rfl := Option.some.inj H
                                go_wp2
                                repeat (go_quiet (fail); try go_wp2)
                                go_ret
                                exact ⟨by first | rfl | (simp [errW_none, errW_some] <;> rfl) | (simp [*, errW_none, errW_some] <;> rfl), by repeat (first | (with_reducible first | exact HB.out | apply below_alloc | apply pw_below_drewN | apply below_drew1 | refine below_set ?_ GE236.out) | exact HB.out)⟩
                            · rw [if_neg c47] at H
                              have c47b0 : (a2_0 == 6) = false := beq_eq_false_iff_ne.mpr c47
                              have c47b1 : (a2_0 != 6) = true := bne_iff_ne.mpr c47
                              obtain rfl := Option.some.inj H
                              go_wp2
                              repeat (go_quiet (fail); try go_wp2)
                              go_ret
                              exact ⟨by first | rfl | (simp [errW_none, errW_some] <;> rfl) | (simp [*, errW_none, errW_some] <;> rfl), by repeat (first | (with_reducible first | exact HB.out | apply below_alloc | apply pw_below_drewN | apply below_drew1 | refine below_set ?_ GE236.out) | exact HB.out)⟩

end Go.Proofs.Ytiliknfmlmdmbaa.T
