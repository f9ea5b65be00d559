-- Laid by a program of this session (wip/gprint.py) over the kit's print of the translation; Lean checks it.
import Derived.Test.YtgbickkmfjngbaaKx0
import Derived.Test.YtgbickkmfjngbaaKx6
import Derived.Test.YtgbickkmfjngbaaKx7
import Derived.Test.YtgbickkmfjngbaaKx9
namespace Go.Proofs.Ytgbickkmfjngbaa.K
open Go.RowKit Go.Proofs.YtgbickkmfjngbaaW.PrintWords Go.Proofs.YtgbickkmfjngbaaW.PrintLast Go.Proofs.YtgbickkmfjngbaaG.Words
set_option linter.unusedVariables false
set_option linter.unusedSimpArgs false

/-! ### tammyref07_Right: function 21 -/
mutual
def tammyref07_Right.l0 : Nat → List (S38) → Int → Int → Option (Bool)
  | 0, _, _, _ => none
  | k + 1, x0, x3, x4 => if x4 < (x0.length : Int) then (if 0 ≤ x4 then ((tammyref07_may.f k ((rd_T38 x0 x4).f0) ((rd_T38 x0 x4).f1) ((rd_T38 x0 x4).f2)).bind fun t230 => (if t230 = true then ((tammyref07_Parts.f ((rd_T38 x0 x4).f0) ((rd_T38 x0 x4).f1) ((rd_T38 x0 x4).f2)).bind fun t232 => (if t232 > x3 then (some false) else ((tammyref07_Parts.f ((rd_T38 x0 x4).f0) ((rd_T38 x0 x4).f1) ((rd_T38 x0 x4).f2)).bind fun t234 => (tammyref07_Right.l0 k x0 (wrap64 ((wrap64 (x3 - t234)) + 1)) (wrap64 (x4 + 1)))))) else (some false))) else (none)) else (if x3 = 1 then ((tammyref07_Text.f k x0).bind fun t235 => (tammyref07_Right.l1 k t235 0 0)) else (some false))
def tammyref07_Right.l1 : Nat → ByteArray → Int → Int → Option (Bool)
  | 0, _, _, _ => none
  | k + 1, x6, x7, x8 => if x8 < (x6.size : Int) then (if 0 ≤ x8 then (if (bt x6 x8) = 40 then (tammyref07_Right.j2 k x6 (wrap64 (x7 + 1)) x8) else (tammyref07_Right.j2 k x6 x7 x8)) else (none)) else (some true)
def tammyref07_Right.j2 : Nat → ByteArray → Int → Int → Option (Bool)
  | 0, _, _, _ => none
  | k + 1, x6, x7, x8 => if 0 ≤ x8 then (if x8 < (x6.size : Int) then (if (bt x6 x8) = 41 then (if (wrap64 (x7 - 1)) > 40 then (some false) else (tammyref07_Right.l1 k x6 (wrap64 (x7 - 1)) (wrap64 (x8 + 1)))) else (if x7 > 40 then (some false) else (tammyref07_Right.l1 k x6 x7 (wrap64 (x8 + 1))))) else (none)) else (none)
end
def tammyref07_Right.f (k : Nat) (l0 : List (S38)) : Option (Bool) := tammyref07_Right.l0 k l0 0 0
theorem tammyref07_Right.mono_l : ∀ k, (∀ y0 y1 y2, LeO (tammyref07_Right.l0 k y0 y1 y2) (tammyref07_Right.l0 (k + 1) y0 y1 y2)) ∧ (∀ y0 y1 y2, LeO (tammyref07_Right.l1 k y0 y1 y2) (tammyref07_Right.l1 (k + 1) y0 y1 y2)) ∧ (∀ y0 y1 y2, LeO (tammyref07_Right.j2 k y0 y1 y2) (tammyref07_Right.j2 (k + 1) y0 y1 y2))
  | 0 => ⟨fun _ _ _ r h => by simp [tammyref07_Right.l0] at h, fun _ _ _ r h => by simp [tammyref07_Right.l1] at h, fun _ _ _ r h => by simp [tammyref07_Right.j2] at h⟩
  | k + 1 => by
    obtain ⟨ih0, ih1, ih2⟩ := tammyref07_Right.mono_l k
    refine ⟨?_, ?_, ?_⟩
    · intro y0 y1 y2
      unfold tammyref07_Right.l0
      repeat' first
      | (with_reducible exact ih0 _ _ _)
      | (with_reducible exact ih1 _ _ _)
      | (with_reducible exact ih2 _ _ _)
      | (with_reducible exact tammyref07_Text.mono _ _)
      | (with_reducible exact tammyref07_may.mono _ _ _ _)
      | (with_reducible exact LeO.refl _)
      | (with_reducible exact LeO.none _)
      | (with_reducible refine LeO.ite ?_ ?_)
      | (with_reducible refine LeO.bind ?_ (fun _ => ?_))
      | exact ih0 _ _ _
      | exact ih1 _ _ _
      | exact ih2 _ _ _
      | exact tammyref07_Text.mono _ _
      | exact tammyref07_may.mono _ _ _ _
      | exact LeO.none _
      | refine LeO.ite ?_ ?_
      | refine LeO.bind ?_ (fun _ => ?_)
    · intro y0 y1 y2
      unfold tammyref07_Right.l1
      repeat' first
      | (with_reducible exact ih0 _ _ _)
      | (with_reducible exact ih1 _ _ _)
      | (with_reducible exact ih2 _ _ _)
      | (with_reducible exact tammyref07_Text.mono _ _)
      | (with_reducible exact tammyref07_may.mono _ _ _ _)
      | (with_reducible exact LeO.refl _)
      | (with_reducible exact LeO.none _)
      | (with_reducible refine LeO.ite ?_ ?_)
      | (with_reducible refine LeO.bind ?_ (fun _ => ?_))
      | exact ih0 _ _ _
      | exact ih1 _ _ _
      | exact ih2 _ _ _
      | exact tammyref07_Text.mono _ _
      | exact tammyref07_may.mono _ _ _ _
      | exact LeO.none _
      | refine LeO.ite ?_ ?_
      | refine LeO.bind ?_ (fun _ => ?_)
    · intro y0 y1 y2
      unfold tammyref07_Right.j2
      repeat' first
      | (with_reducible exact ih0 _ _ _)
      | (with_reducible exact ih1 _ _ _)
      | (with_reducible exact ih2 _ _ _)
      | (with_reducible exact tammyref07_Text.mono _ _)
      | (with_reducible exact tammyref07_may.mono _ _ _ _)
      | (with_reducible exact LeO.refl _)
      | (with_reducible exact LeO.none _)
      | (with_reducible refine LeO.ite ?_ ?_)
      | (with_reducible refine LeO.bind ?_ (fun _ => ?_))
      | exact ih0 _ _ _
      | exact ih1 _ _ _
      | exact ih2 _ _ _
      | exact tammyref07_Text.mono _ _
      | exact tammyref07_may.mono _ _ _ _
      | exact LeO.none _
      | refine LeO.ite ?_ ?_
      | refine LeO.bind ?_ (fun _ => ?_)
theorem tammyref07_Right.mono : ∀ a0 k, LeO (tammyref07_Right.f k a0) (tammyref07_Right.f (k + 1) a0) := by
  intro a0 k
  obtain ⟨ih0, ih1, ih2⟩ := tammyref07_Right.mono_l k
  unfold tammyref07_Right.f
  repeat' first
      | (with_reducible exact ih0 _ _ _)
      | (with_reducible exact ih1 _ _ _)
      | (with_reducible exact ih2 _ _ _)
      | (with_reducible exact tammyref07_Text.mono _ _)
      | (with_reducible exact tammyref07_may.mono _ _ _ _)
      | (with_reducible exact LeO.refl _)
      | (with_reducible exact LeO.none _)
      | (with_reducible refine LeO.ite ?_ ?_)
      | (with_reducible refine LeO.bind ?_ (fun _ => ?_))
      | exact ih0 _ _ _
      | exact ih1 _ _ _
      | exact ih2 _ _ _
      | exact tammyref07_Text.mono _ _
      | exact tammyref07_may.mono _ _ _ _
      | exact LeO.none _
      | refine LeO.ite ?_ ?_
      | refine LeO.bind ?_ (fun _ => ?_)
set_option maxHeartbeats 8000000 in
set_option maxRecDepth 100000 in
theorem tammyref07_Right.calls (k : Nat) (A0 : Option Addr) (c0 : Nat) (l0 : List (S38)) (r : Bool) (w : World) (hr0 : Kd.C k38 w A0 l0.length l0) (hc0 : l0.length ≤ c0) (h : tammyref07_Right.f k l0 = some r) :
    Calls Try.prog 21 #[.slice A0 l0.length c0] w fun e w' => e = .returned (.bool r) ∧ Below w.heap.size w w' := by
  have hu38 := Try.underlying38
  have HR0 := Aside0.mk hr0
  have HC0 := Aside0.mk hc0
  clear hr0 hc0
  have HB := Aside0.mk (Below.refl w.heap.size w)
  have H : (tammyref07_Right.l0 k l0 0 0) = some r := h
  clear h
  have H' := Aside0.mk H
  clear H
  go_enter Try.func21, Try.ntmps21
  go_wp2
  go_loopg [3, 4] k (fun kq v3 v4 w' => ∃ (x3_1 : Int) (x4_1 : Int), v3 = .int .i64 x3_1 ∧ v4 = .int .i64 x4_1 ∧ Aside0 (tammyref07_Right.l0 kq l0 x3_1 x4_1 = some r) ∧ Aside0 (kq ≤ k) ∧ Aside0 (Below w.heap.size w w'))
  case atStart => exact ⟨(0), (0), (by first | rfl | (simp; done) | (simp [*]; done)), (by first | rfl | (simp; done) | (simp [*]; done)), H', ⟨Nat.le_refl _⟩, ⟨by repeat (first | (with_reducible first | exact HB.out | apply below_alloc | apply pw_below_drewN | apply below_drew1) | exact HB.out)⟩⟩
  case round =>
    clear H'
    obtain ⟨x3_1, x4_1, rfl, rfl, HA, HK1, HB⟩ := hrel
    cases gk with
    | zero => exact absurd HA.out (by simp [tammyref07_Right.l0])
    | succ k1 =>
      have H := HA.out
      clear HA
      simp only [tammyref07_Right.l0] at H
      by_cases c2 : x4_1 < (l0.length : Int)
      · rw [if_pos c2] at H
        have c2b0 : decide (x4_1 < (l0.length : Int)) = true := decide_eq_true c2
        clear c2
        by_cases c3 : 0 ≤ x4_1
        · rw [if_pos c3] at H
          have c3b0 : decide (0 ≤ x4_1) = true := decide_eq_true c3
          clear c3
          replace H := Option.bind_eq_some_iff.mp H
          obtain ⟨t230, A40, H⟩ := H
          replace H : (if t230 = true then ((tammyref07_Parts.f ((rd_T38 l0 x4_1).f0) ((rd_T38 l0 x4_1).f1) ((rd_T38 l0 x4_1).f2)).bind fun t232 => (if t232 > x3_1 then (some false) else ((tammyref07_Parts.f ((rd_T38 l0 x4_1).f0) ((rd_T38 l0 x4_1).f1) ((rd_T38 l0 x4_1).f2)).bind fun t234 => (tammyref07_Right.l0 k1 l0 (wrap64 ((wrap64 (x3_1 - t234)) + 1)) (wrap64 (x4_1 + 1)))))) else (some false)) = some r := H
          have A4 := Aside0.mk A40
          clear A40
          by_cases c5 : t230 = true
          · subst c5
            have H1 : ((tammyref07_Parts.f ((rd_T38 l0 x4_1).f0) ((rd_T38 l0 x4_1).f1) ((rd_T38 l0 x4_1).f2)).bind fun t232 => (if t232 > x3_1 then (some false) else ((tammyref07_Parts.f ((rd_T38 l0 x4_1).f0) ((rd_T38 l0 x4_1).f1) ((rd_T38 l0 x4_1).f2)).bind fun t234 => (tammyref07_Right.l0 k1 l0 (wrap64 ((wrap64 (x3_1 - t234)) + 1)) (wrap64 (x4_1 + 1)))))) = some r := by rw [if_pos rfl] at H; exact H
            clear H
            have H := H1
            clear H1
            replace H := Option.bind_eq_some_iff.mp H
            obtain ⟨t232, A60, H⟩ := H
            replace H : (if t232 > x3_1 then (some false) else ((tammyref07_Parts.f ((rd_T38 l0 x4_1).f0) ((rd_T38 l0 x4_1).f1) ((rd_T38 l0 x4_1).f2)).bind fun t234 => (tammyref07_Right.l0 k1 l0 (wrap64 ((wrap64 (x3_1 - t234)) + 1)) (wrap64 (x4_1 + 1))))) = some r := H
            have A6 := Aside0.mk A60
            clear A60
            by_cases c7 : t232 > x3_1
            · rw [if_pos c7] at H
              have c7b0 : decide (x3_1 < t232) = true := decide_eq_true c7
              clear c7
              obtain rfl := Option.some.inj H
              have p229 : 0 ≤ (x4_1 : Int) := of_decide_eq_true (by first | (with_reducible assumption) | assumption)
              have q229 : x4_1 < (l0.length : Int) := of_decide_eq_true (by first | (with_reducible assumption) | assumption)
              obtain ⟨ad229, e229, hx229_0, hx229_1, hx229_2⟩ := at_T38 HR0.out x4_1 p229 q229
              cases e229
              replace hx229_0 := (HB.out.cell (World.block_lt_of_cell? w _ hx229_0)).trans hx229_0
              replace hx229_1 := (HB.out.cell (World.block_lt_of_cell? w _ hx229_1)).trans hx229_1
              replace hx229_2 := (HB.out.cell (World.block_lt_of_cell? w _ hx229_2)).trans hx229_2
              replace p229 := eq_true p229
              replace q229 := eq_true q229
              go_wp2_with (first | ((with_reducible refine gate_callee (f := 38) rfl ?_); refine goesL_ (some 19) rfl rfl Try.func38 (by kernel_rfl) rfl #[.agg #[.int .i64 ((rd_T38 l0 x4_1).f0), .string ((rd_T38 l0 x4_1).f1), .int .i64 ((rd_T38 l0 x4_1).f2)]] rfl (by (try simp only [List.map_toArray, List.map_cons, List.map_nil]); first | done | rfl | (simp only [List.length_drop, List.length_take]; rfl)) ?_; (with_reducible refine (tammyref07_may.calls k1 ((rd_T38 l0 x4_1).f0) ((rd_T38 l0 x4_1).f1) ((rd_T38 l0 x4_1).f2) true _ A4.out).mono ?_); rintro e w8 ⟨rfl, hb⟩; refine ⟨_, rfl, ?_⟩; have n0_ := Aside0.mk (below_step (by repeat (first | (with_reducible first | exact HB.out | apply below_alloc | apply pw_below_drewN | apply below_drew1) | exact HB.out)) hb); clear HB; have HB := n0_; clear n0_; (try clear hb); (try clear hb2); (try clear hk); (try clear hi); have p231 : 0 ≤ (x4_1 : Int) := of_decide_eq_true (by first | (with_reducible assumption) | assumption); have q231 : x4_1 < (l0.length : Int) := of_decide_eq_true (by first | (with_reducible assumption) | assumption); obtain ⟨ad231, e231, hx231_0, hx231_1, hx231_2⟩ := at_T38 HR0.out x4_1 p231 q231; obtain rfl : ad229 = ad231 := (by injection e231); replace hx231_0 := (HB.out.cell (World.block_lt_of_cell? w _ hx231_0)).trans hx231_0; replace hx231_1 := (HB.out.cell (World.block_lt_of_cell? w _ hx231_1)).trans hx231_1; replace hx231_2 := (HB.out.cell (World.block_lt_of_cell? w _ hx231_2)).trans hx231_2; replace p231 := eq_true p231; replace q231 := eq_true q231) | (go_at_call 37; (with_reducible refine (tammyref07_Parts.calls ((rd_T38 l0 x4_1).f0) ((rd_T38 l0 x4_1).f1) ((rd_T38 l0 x4_1).f2) t232 _ A6.out).mono ?_); rintro e w9 ⟨rfl, hb⟩; have n0_ := Aside0.mk (below_step (by repeat (first | (with_reducible first | exact HB.out | apply below_alloc | apply pw_below_drewN | apply below_drew1) | exact HB.out)) hb); clear HB; have HB := n0_; clear n0_; (try clear hb); (try clear hb2); (try clear hk); (try clear hi)))
              go_ret
              exact ⟨by first | rfl | (simp [errW_none, errW_some] <;> rfl) | (simp [*, errW_none, errW_some] <;> rfl), by repeat (first | (with_reducible first | exact HB.out | apply below_alloc | apply pw_below_drewN | apply below_drew1) | exact HB.out)⟩
            · rw [if_neg c7] at H
              have c7b0 : decide (x3_1 < t232) = false := decide_eq_false c7
              clear c7
              replace H := Option.bind_eq_some_iff.mp H
              obtain ⟨t234, A100, H⟩ := H
              replace H : (tammyref07_Right.l0 k1 l0 (wrap64 ((wrap64 (x3_1 - t234)) + 1)) (wrap64 (x4_1 + 1))) = some r := H
              have A10 := Aside0.mk A100
              clear A100
              have H' := Aside0.mk H
              clear H
              have p229 : 0 ≤ (x4_1 : Int) := of_decide_eq_true (by first | (with_reducible assumption) | assumption)
              have q229 : x4_1 < (l0.length : Int) := of_decide_eq_true (by first | (with_reducible assumption) | assumption)
              obtain ⟨ad229, e229, hx229_0, hx229_1, hx229_2⟩ := at_T38 HR0.out x4_1 p229 q229
              cases e229
              replace hx229_0 := (HB.out.cell (World.block_lt_of_cell? w _ hx229_0)).trans hx229_0
              replace hx229_1 := (HB.out.cell (World.block_lt_of_cell? w _ hx229_1)).trans hx229_1
              replace hx229_2 := (HB.out.cell (World.block_lt_of_cell? w _ hx229_2)).trans hx229_2
              replace p229 := eq_true p229
              replace q229 := eq_true q229
              go_wp2_with (first | ((with_reducible refine gate_callee (f := 38) rfl ?_); refine goesL_ (some 19) rfl rfl Try.func38 (by kernel_rfl) rfl #[.agg #[.int .i64 ((rd_T38 l0 x4_1).f0), .string ((rd_T38 l0 x4_1).f1), .int .i64 ((rd_T38 l0 x4_1).f2)]] rfl (by (try simp only [List.map_toArray, List.map_cons, List.map_nil]); first | done | rfl | (simp only [List.length_drop, List.length_take]; rfl)) ?_; (with_reducible refine (tammyref07_may.calls k1 ((rd_T38 l0 x4_1).f0) ((rd_T38 l0 x4_1).f1) ((rd_T38 l0 x4_1).f2) true _ A4.out).mono ?_); rintro e w11 ⟨rfl, hb⟩; refine ⟨_, rfl, ?_⟩; have n0_ := Aside0.mk (below_step (by repeat (first | (with_reducible first | exact HB.out | apply below_alloc | apply pw_below_drewN | apply below_drew1) | exact HB.out)) hb); clear HB; have HB := n0_; clear n0_; (try clear hb); (try clear hb2); (try clear hk); (try clear hi); have p231 : 0 ≤ (x4_1 : Int) := of_decide_eq_true (by first | (with_reducible assumption) | assumption); have q231 : x4_1 < (l0.length : Int) := of_decide_eq_true (by first | (with_reducible assumption) | assumption); obtain ⟨ad231, e231, hx231_0, hx231_1, hx231_2⟩ := at_T38 HR0.out x4_1 p231 q231; obtain rfl : ad229 = ad231 := (by injection e231); replace hx231_0 := (HB.out.cell (World.block_lt_of_cell? w _ hx231_0)).trans hx231_0; replace hx231_1 := (HB.out.cell (World.block_lt_of_cell? w _ hx231_1)).trans hx231_1; replace hx231_2 := (HB.out.cell (World.block_lt_of_cell? w _ hx231_2)).trans hx231_2; replace p231 := eq_true p231; replace q231 := eq_true q231) | (go_at_call 37; (with_reducible refine (tammyref07_Parts.calls ((rd_T38 l0 x4_1).f0) ((rd_T38 l0 x4_1).f1) ((rd_T38 l0 x4_1).f2) t232 _ A6.out).mono ?_); rintro e w12 ⟨rfl, hb⟩; have n0_ := Aside0.mk (below_step (by repeat (first | (with_reducible first | exact HB.out | apply below_alloc | apply pw_below_drewN | apply below_drew1) | exact HB.out)) hb); clear HB; have HB := n0_; clear n0_; (try clear hb); (try clear hb2); (try clear hk); (try clear hi); have p233 : 0 ≤ (x4_1 : Int) := of_decide_eq_true (by first | (with_reducible assumption) | assumption); have q233 : x4_1 < (l0.length : Int) := of_decide_eq_true (by first | (with_reducible assumption) | assumption); obtain ⟨ad233, e233, hx233_0, hx233_1, hx233_2⟩ := at_T38 HR0.out x4_1 p233 q233; obtain rfl : ad229 = ad233 := (by injection e233); replace hx233_0 := (HB.out.cell (World.block_lt_of_cell? w _ hx233_0)).trans hx233_0; replace hx233_1 := (HB.out.cell (World.block_lt_of_cell? w _ hx233_1)).trans hx233_1; replace hx233_2 := (HB.out.cell (World.block_lt_of_cell? w _ hx233_2)).trans hx233_2; replace p233 := eq_true p233; replace q233 := eq_true q233) | ((with_reducible refine gate_callee (f := 37) rfl ?_); refine goesL_ (some 36) rfl rfl Try.func37 (by kernel_rfl) rfl #[.agg #[.int .i64 ((rd_T38 l0 x4_1).f0), .string ((rd_T38 l0 x4_1).f1), .int .i64 ((rd_T38 l0 x4_1).f2)]] rfl (by (try simp only [List.map_toArray, List.map_cons, List.map_nil]); first | done | rfl | (simp only [List.length_drop, List.length_take]; rfl)) ?_; (with_reducible refine (tammyref07_Parts.calls ((rd_T38 l0 x4_1).f0) ((rd_T38 l0 x4_1).f1) ((rd_T38 l0 x4_1).f2) t234 _ A10.out).mono ?_); rintro e w13 ⟨rfl, hb⟩; refine ⟨_, rfl, ?_⟩; have n0_ := Aside0.mk (below_step (by repeat (first | (with_reducible first | exact HB.out | apply below_alloc | apply pw_below_drewN | apply below_drew1) | exact HB.out)) hb); clear HB; have HB := n0_; clear n0_; (try clear hb); (try clear hb2); (try clear hk); (try clear hi)))
              go_roundg k1
              case measure => have := HK1.out; omega
              case rel => exact ⟨(wrap64 ((wrap64 (x3_1 - t234)) + 1)), (wrap64 (x4_1 + 1)), (by first | rfl | (simp; done) | (simp [*]; done)), (by first | rfl | (simp; done) | (simp [*]; done)), H', ⟨by have := HK1.out; omega⟩, ⟨by repeat (first | (with_reducible first | exact HB.out | apply below_alloc | apply pw_below_drewN | apply below_drew1) | exact HB.out)⟩⟩
          · replace c5 := Bool.eq_false_iff.mpr c5
            subst c5
            have H1 : (some false) = some r := by rw [if_neg (show ¬ (false = true) by decide)] at H; exact H
            clear H
            have H := H1
            clear H1
            obtain rfl := Option.some.inj H
            have p229 : 0 ≤ (x4_1 : Int) := of_decide_eq_true (by first | (with_reducible assumption) | assumption)
            have q229 : x4_1 < (l0.length : Int) := of_decide_eq_true (by first | (with_reducible assumption) | assumption)
            obtain ⟨ad229, e229, hx229_0, hx229_1, hx229_2⟩ := at_T38 HR0.out x4_1 p229 q229
            cases e229
            replace hx229_0 := (HB.out.cell (World.block_lt_of_cell? w _ hx229_0)).trans hx229_0
            replace hx229_1 := (HB.out.cell (World.block_lt_of_cell? w _ hx229_1)).trans hx229_1
            replace hx229_2 := (HB.out.cell (World.block_lt_of_cell? w _ hx229_2)).trans hx229_2
            replace p229 := eq_true p229
            replace q229 := eq_true q229
            go_wp2_with (first | ((with_reducible refine gate_callee (f := 38) rfl ?_); refine goesL_ (some 19) rfl rfl Try.func38 (by kernel_rfl) rfl #[.agg #[.int .i64 ((rd_T38 l0 x4_1).f0), .string ((rd_T38 l0 x4_1).f1), .int .i64 ((rd_T38 l0 x4_1).f2)]] rfl (by (try simp only [List.map_toArray, List.map_cons, List.map_nil]); first | done | rfl | (simp only [List.length_drop, List.length_take]; rfl)) ?_; (with_reducible refine (tammyref07_may.calls k1 ((rd_T38 l0 x4_1).f0) ((rd_T38 l0 x4_1).f1) ((rd_T38 l0 x4_1).f2) false _ A4.out).mono ?_); rintro e w14 ⟨rfl, hb⟩; refine ⟨_, rfl, ?_⟩; have n0_ := Aside0.mk (below_step (by repeat (first | (with_reducible first | exact HB.out | apply below_alloc | apply pw_below_drewN | apply below_drew1) | exact HB.out)) hb); clear HB; have HB := n0_; clear n0_; (try clear hb); (try clear hb2); (try clear hk); (try clear hi)))
            go_ret
            exact ⟨by first | rfl | (simp [errW_none, errW_some] <;> rfl) | (simp [*, errW_none, errW_some] <;> rfl), by repeat (first | (with_reducible first | exact HB.out | apply below_alloc | apply pw_below_drewN | apply below_drew1) | exact HB.out)⟩
        · rw [if_neg c3] at H
          exact absurd H (by simp)
      · rw [if_neg c2] at H
        have c2b0 : decide (x4_1 < (l0.length : Int)) = false := decide_eq_false c2
        clear c2
        by_cases c15 : x3_1 = 1
        · rw [if_pos c15] at H
          have c15b0 : (x3_1 == 1) = true := beq_iff_eq.mpr c15
          have c15b1 : (x3_1 != 1) = false := bne_eq_false_iff_eq.mpr c15
          clear c15
          replace H := Option.bind_eq_some_iff.mp H
          obtain ⟨t235, A160, H⟩ := H
          replace H : (tammyref07_Right.l1 k1 t235 0 0) = some r := H
          have A16 := Aside0.mk A160
          clear A160
          have H' := Aside0.mk H
          clear H
          go_wp2_with (first | ((with_reducible refine gate_callee (f := 39) rfl ?_); refine goesL_ (some 42) rfl rfl Try.func39 (by kernel_rfl) rfl #[.slice A0 l0.length c0] rfl (by (try simp only [List.map_toArray, List.map_cons, List.map_nil]); first | done | rfl | (simp only [List.length_drop, List.length_take]; rfl)) ?_; (with_reducible refine (tammyref07_Text.calls k1 _ _ l0 t235 _ ?side1 ?side2 A16.out).mono ?_); (case side1 => repeat (first | exact (Kd.C_below HR0.out HB.out) | (with_reducible refine Kd.C_alloc ?_ _) | (with_reducible refine Kd.C_drewN ?_ _) | (with_reducible refine Kd.C_drew ?_))); (case side2 => exact HC0.out); rintro e w17 ⟨rfl, hb⟩; refine ⟨_, rfl, ?_⟩; have n0_ := Aside0.mk (below_step (by repeat (first | (with_reducible first | exact HB.out | apply below_alloc | apply pw_below_drewN | apply below_drew1) | exact HB.out)) hb); clear HB; have HB := n0_; clear n0_; (try clear hb); (try clear hb2); (try clear hk); (try clear hi)))
          go_loopg [7, 8] k1 (fun kq v7 v8 w' => ∃ (x7_2 : Int) (x8_2 : Int), v7 = .int .i64 x7_2 ∧ v8 = .int .i64 x8_2 ∧ Aside0 (tammyref07_Right.l1 kq t235 x7_2 x8_2 = some r) ∧ Aside0 (kq ≤ k1) ∧ Aside0 (Below w.heap.size w w'))
          case atStart => exact ⟨(0), (0), (by first | rfl | (simp; done) | (simp [*]; done)), (by first | rfl | (simp; done) | (simp [*]; done)), H', ⟨Nat.le_refl _⟩, ⟨by repeat (first | (with_reducible first | exact HB.out | apply below_alloc | apply pw_below_drewN | apply below_drew1) | exact HB.out)⟩⟩
          case round =>
            clear H'
            try clear c1
            try clear c2
            try clear c2b0
            try clear p2
            try clear q2
            try clear hx2
            try clear c3
            try clear c3b0
            try clear c5
            try clear p6
            try clear c7
            try clear c7b0
            try clear c15
            try clear c15b0
            try clear c15b1
            try clear hx229_0
            try clear hx229_1
            try clear hx229_2
            try clear hx231_0
            try clear hx231_1
            try clear hx231_2
            try clear hx233_0
            try clear hx233_1
            try clear hx233_2
            try clear p229
            try clear p231
            try clear p233
            try clear q229
            try clear q231
            try clear q233
            obtain ⟨x7_2, x8_2, rfl, rfl, HA, HK2, HB⟩ := hrel
            cases gk with
            | zero => exact absurd HA.out (by simp [tammyref07_Right.l1])
            | succ k2 =>
              have H := HA.out
              clear HA
              simp only [tammyref07_Right.l1] at H
              by_cases c18 : x8_2 < (t235.size : Int)
              · rw [if_pos c18] at H
                have c18b0 : decide (x8_2 < (t235.size : Int)) = true := decide_eq_true c18
                clear c18
                by_cases c19 : 0 ≤ x8_2
                · rw [if_pos c19] at H
                  have c19b0 : decide (0 ≤ x8_2) = true := decide_eq_true c19
                  clear c19
                  have HC21 := Aside0.mk H
                  clear H
                  have p20 : 0 ≤ (x8_2 : Int) := of_decide_eq_true (by first | (with_reducible assumption) | assumption)
                  have q20 : x8_2 < (t235.size : Int) := of_decide_eq_true (by first | (with_reducible assumption) | assumption)
                  have hx20 := bt_at t235 x8_2
                  replace p20 := eq_true p20
                  replace q20 := eq_true q20
                  go_upto_if 52 with (fail)
                  go_cut [7] (fun v7 wc => ∃ (kq : Nat) (x7_20 : Int), v7 = .int .i64 x7_20 ∧ Aside0 (tammyref07_Right.j2 kq t235 x7_20 x8_2 = some r) ∧ Aside0 (kq ≤ k2) ∧ Aside0 (Below w.heap.size w wc))
                  case first =>
                    have H := HC21.out
                    clear HC21
                    by_cases c22 : (bt t235 x8_2) = 40
                    · rw [if_pos c22] at H
                      have c22b0 : ((bt t235 x8_2) == 40) = true := beq_iff_eq.mpr c22
                      have c22b1 : ((bt t235 x8_2) != 40) = false := bne_eq_false_iff_eq.mpr c22
                      clear c22
                      (first | rw [c22b0] | (simp only [i64_w, i32_w]; rw [c22b0]) | skip)
                      have H' := Aside0.mk H
                      clear H
                      go_wp2
                      go_meet
                      case rel => exact ⟨_, (wrap64 (x7_2 + 1)), (by first | rfl | (simp; done) | (simp [*]; done)), H', ⟨by have := HK1.out; have := HK2.out; first | omega | exact Nat.le_refl _⟩, ⟨by repeat (first | (with_reducible first | exact HB.out | apply below_alloc | apply pw_below_drewN | apply below_drew1) | exact HB.out)⟩⟩
                    · rw [if_neg c22] at H
                      have c22b0 : ((bt t235 x8_2) == 40) = false := beq_eq_false_iff_ne.mpr c22
                      have c22b1 : ((bt t235 x8_2) != 40) = true := bne_iff_ne.mpr c22
                      (first | rw [c22b0] | (simp only [i64_w, i32_w]; rw [c22b0]) | skip)
                      have H' := Aside0.mk H
                      clear H
                      go_wp2
                      go_meet
                      case rel => exact ⟨_, (x7_2), (by first | rfl | (simp; done) | (simp [*]; done)), H', ⟨by have := HK1.out; have := HK2.out; first | omega | exact Nat.le_refl _⟩, ⟨by repeat (first | (with_reducible first | exact HB.out | apply below_alloc | apply pw_below_drewN | apply below_drew1) | exact HB.out)⟩⟩
                  case rest =>
                    clear HC21
                    try clear c1
                    try clear c2
                    try clear c2b0
                    try clear p2
                    try clear q2
                    try clear hx2
                    try clear c3
                    try clear c3b0
                    try clear c5
                    try clear p6
                    try clear c7
                    try clear c7b0
                    try clear c15
                    try clear c15b0
                    try clear c15b1
                    try clear c18
                    try clear c18b0
                    try clear c19
                    try clear c19b0
                    try clear p20
                    try clear q20
                    try clear hx20
                    try clear c21
                    try clear c22
                    try clear c22b0
                    try clear c22b1
                    try clear p22
                    try clear q22
                    try clear hx22
                    try clear hx229_0
                    try clear hx229_1
                    try clear hx229_2
                    try clear hx231_0
                    try clear hx231_1
                    try clear hx231_2
                    try clear hx233_0
                    try clear hx233_1
                    try clear hx233_2
                    try clear p2
                    try clear p20
                    try clear p229
                    try clear p231
                    try clear p233
                    try clear p6
                    try clear q2
                    try clear q20
                    try clear q229
                    try clear q231
                    try clear q233
                    obtain ⟨kq, x7_20, rfl, HA, HJ20, HB⟩ := hcut
                    cases kq with
                    | zero => exact absurd HA.out (by simp [tammyref07_Right.j2])
                    | succ kj20 =>
                      have H := HA.out
                      clear HA
                      simp only [tammyref07_Right.j2] at H
                      by_cases c23 : 0 ≤ x8_2
                      · rw [if_pos c23] at H
                        have c23b0 : decide (0 ≤ x8_2) = true := decide_eq_true c23
                        clear c23
                        by_cases c24 : x8_2 < (t235.size : Int)
                        · rw [if_pos c24] at H
                          have c24b0 : decide (x8_2 < (t235.size : Int)) = true := decide_eq_true c24
                          clear c24
                          by_cases c26 : (bt t235 x8_2) = 41
                          · rw [if_pos c26] at H
                            have c26b0 : ((bt t235 x8_2) == 41) = true := beq_iff_eq.mpr c26
                            have c26b1 : ((bt t235 x8_2) != 41) = false := bne_eq_false_iff_eq.mpr c26
                            clear c26
                            by_cases c27 : (wrap64 (x7_20 - 1)) > 40
                            · rw [if_pos c27] at H
                              have c27b0 : decide (40 < (wrap64 (x7_20 - 1))) = true := decide_eq_true c27
                              clear c27
                              obtain rfl := Option.some.inj H
                              have p25 : 0 ≤ (x8_2 : Int) := of_decide_eq_true (by first | (with_reducible assumption) | assumption)
                              have q25 : x8_2 < (t235.size : Int) := of_decide_eq_true (by first | (with_reducible assumption) | assumption)
                              have hx25 := bt_at t235 x8_2
                              replace p25 := eq_true p25
                              replace q25 := eq_true q25
                              go_wp2
                              go_ret
                              exact ⟨by first | rfl | (simp [errW_none, errW_some] <;> rfl) | (simp [*, errW_none, errW_some] <;> rfl), by repeat (first | (with_reducible first | exact HB.out | apply below_alloc | apply pw_below_drewN | apply below_drew1) | exact HB.out)⟩
                            · rw [if_neg c27] at H
                              have c27b0 : decide (40 < (wrap64 (x7_20 - 1))) = false := decide_eq_false c27
                              clear c27
                              have H' := Aside0.mk H
                              clear H
                              have p25 : 0 ≤ (x8_2 : Int) := of_decide_eq_true (by first | (with_reducible assumption) | assumption)
                              have q25 : x8_2 < (t235.size : Int) := of_decide_eq_true (by first | (with_reducible assumption) | assumption)
                              have hx25 := bt_at t235 x8_2
                              replace p25 := eq_true p25
                              replace q25 := eq_true q25
                              go_wp2
                              go_roundg kj20
                              case measure => have := HK1.out; have := HK2.out; have := HJ20.out; omega
                              case rel => exact ⟨(wrap64 (x7_20 - 1)), (wrap64 (x8_2 + 1)), (by first | rfl | (simp; done) | (simp [*]; done)), (by first | rfl | (simp; done) | (simp [*]; done)), H', ⟨by have := HK1.out; have := HK2.out; have := HJ20.out; omega⟩, ⟨by repeat (first | (with_reducible first | exact HB.out | apply below_alloc | apply pw_below_drewN | apply below_drew1) | exact HB.out)⟩⟩
                          · rw [if_neg c26] at H
                            have c26b0 : ((bt t235 x8_2) == 41) = false := beq_eq_false_iff_ne.mpr c26
                            have c26b1 : ((bt t235 x8_2) != 41) = true := bne_iff_ne.mpr c26
                            by_cases c28 : x7_20 > 40
                            · rw [if_pos c28] at H
                              have c28b0 : decide (40 < x7_20) = true := decide_eq_true c28
                              clear c28
                              obtain rfl := Option.some.inj H
                              have p25 : 0 ≤ (x8_2 : Int) := of_decide_eq_true (by first | (with_reducible assumption) | assumption)
                              have q25 : x8_2 < (t235.size : Int) := of_decide_eq_true (by first | (with_reducible assumption) | assumption)
                              have hx25 := bt_at t235 x8_2
                              replace p25 := eq_true p25
                              replace q25 := eq_true q25
                              go_wp2
                              go_ret
                              exact ⟨by first | rfl | (simp [errW_none, errW_some] <;> rfl) | (simp [*, errW_none, errW_some] <;> rfl), by repeat (first | (with_reducible first | exact HB.out | apply below_alloc | apply pw_below_drewN | apply below_drew1) | exact HB.out)⟩
                            · rw [if_neg c28] at H
                              have c28b0 : decide (40 < x7_20) = false := decide_eq_false c28
                              clear c28
                              have H' := Aside0.mk H
                              clear H
                              have p25 : 0 ≤ (x8_2 : Int) := of_decide_eq_true (by first | (with_reducible assumption) | assumption)
                              have q25 : x8_2 < (t235.size : Int) := of_decide_eq_true (by first | (with_reducible assumption) | assumption)
                              have hx25 := bt_at t235 x8_2
                              replace p25 := eq_true p25
                              replace q25 := eq_true q25
                              go_wp2
                              go_roundg kj20
                              case measure => have := HK1.out; have := HK2.out; have := HJ20.out; omega
                              case rel => exact ⟨(x7_20), (wrap64 (x8_2 + 1)), (by first | rfl | (simp; done) | (simp [*]; done)), (by first | rfl | (simp; done) | (simp [*]; done)), H', ⟨by have := HK1.out; have := HK2.out; have := HJ20.out; omega⟩, ⟨by repeat (first | (with_reducible first | exact HB.out | apply below_alloc | apply pw_below_drewN | apply below_drew1) | exact HB.out)⟩⟩
                        · rw [if_neg c24] at H
                          exact absurd H (by simp)
                      · rw [if_neg c23] at H
                        exact absurd H (by simp)
                · rw [if_neg c19] at H
                  exact absurd H (by simp)
              · rw [if_neg c18] at H
                have c18b0 : decide (x8_2 < (t235.size : Int)) = false := decide_eq_false c18
                clear c18
                obtain rfl := Option.some.inj H
                go_wp2
                go_ret
                exact ⟨by first | rfl | (simp [errW_none, errW_some] <;> rfl) | (simp [*, errW_none, errW_some] <;> rfl), by repeat (first | (with_reducible first | exact HB.out | apply below_alloc | apply pw_below_drewN | apply below_drew1) | exact HB.out)⟩
        · rw [if_neg c15] at H
          have c15b0 : (x3_1 == 1) = false := beq_eq_false_iff_ne.mpr c15
          have c15b1 : (x3_1 != 1) = true := bne_iff_ne.mpr c15
          obtain rfl := Option.some.inj H
          go_wp2
          go_ret
          exact ⟨by first | rfl | (simp [errW_none, errW_some] <;> rfl) | (simp [*, errW_none, errW_some] <;> rfl), by repeat (first | (with_reducible first | exact HB.out | apply below_alloc | apply pw_below_drewN | apply below_drew1) | exact HB.out)⟩

/-! ### tammyref01_Find: function 25 -/
def tammyref01_Find.l0 : Nat → List (S52) → ByteArray → Int → Option (Int)
  | 0, _, _, _ => none
  | k + 1, x0, x1, x5 => if x5 < (x0.length : Int) then (if 0 ≤ x5 then (if ((rd_T52 x0 x5).f0).toList = x1.toList then (some x5) else (tammyref01_Find.l0 k x0 x1 (wrap64 (x5 + 1)))) else (none)) else (some (-1))
def tammyref01_Find.f (k : Nat) (l0 : List (S52)) (a1 : ByteArray) : Option (Int) := tammyref01_Find.l0 k l0 a1 0
theorem tammyref01_Find.mono_l : ∀ k, (∀ y0 y1 y2, LeO (tammyref01_Find.l0 k y0 y1 y2) (tammyref01_Find.l0 (k + 1) y0 y1 y2))
  | 0 => fun _ _ _ r h => by simp [tammyref01_Find.l0] at h
  | k + 1 => by
    have ih0 := tammyref01_Find.mono_l k
    · intro y0 y1 y2
      unfold tammyref01_Find.l0
      repeat' first
      | (with_reducible exact ih0 _ _ _)
      | (with_reducible exact LeO.refl _)
      | (with_reducible exact LeO.none _)
      | (with_reducible refine LeO.ite ?_ ?_)
      | (with_reducible refine LeO.bind ?_ (fun _ => ?_))
      | exact ih0 _ _ _
      | exact LeO.none _
      | refine LeO.ite ?_ ?_
      | refine LeO.bind ?_ (fun _ => ?_)
theorem tammyref01_Find.mono : ∀ a0 a1 k, LeO (tammyref01_Find.f k a0 a1) (tammyref01_Find.f (k + 1) a0 a1) := by
  intro a0 a1 k
  have ih0 := tammyref01_Find.mono_l k
  unfold tammyref01_Find.f
  repeat' first
      | (with_reducible exact ih0 _ _ _)
      | (with_reducible exact LeO.refl _)
      | (with_reducible exact LeO.none _)
      | (with_reducible refine LeO.ite ?_ ?_)
      | (with_reducible refine LeO.bind ?_ (fun _ => ?_))
      | exact ih0 _ _ _
      | exact LeO.none _
      | refine LeO.ite ?_ ?_
      | refine LeO.bind ?_ (fun _ => ?_)
set_option maxHeartbeats 8000000 in
set_option maxRecDepth 100000 in
theorem tammyref01_Find.calls (k : Nat) (A0 : Option Addr) (c0 : Nat) (l0 : List (S52)) (a1 : ByteArray) (r : Int) (w : World) (hr0 : Kd.C k52 w A0 l0.length l0) (hc0 : l0.length ≤ c0) (h : tammyref01_Find.f k l0 a1 = some r) :
    Calls Try.prog 25 #[.slice A0 l0.length c0, .string a1] w fun e w' => e = .returned (.int .i64 r) ∧ Drawn0 w w' := by
  have HR0 := Aside0.mk hr0
  have HC0 := Aside0.mk hc0
  clear hr0 hc0
  have H : (tammyref01_Find.l0 k l0 a1 0) = some r := h
  clear h
  have H' := Aside0.mk H
  clear H
  go_enter Try.func25, Try.ntmps25
  go_wp2
  go_loopg [5] k (fun kq v5 w' => ∃ (x5_1 : Int), v5 = .int .i64 x5_1 ∧ Aside0 (tammyref01_Find.l0 kq l0 a1 x5_1 = some r) ∧ Aside0 (kq ≤ k) ∧ Drawn0 w w')
  case atStart => exact ⟨(0), (by first | rfl | (simp; done) | (simp [*]; done)), H', ⟨Nat.le_refl _⟩, by repeat (first | exact Drawn0.refl _ | apply Drawn0.step)⟩
  case round =>
    clear H'
    try clear c2
    try clear p2
    obtain ⟨x5_1, rfl, HA, HK1, ⟨m1, rfl⟩⟩ := hrel
    cases gk with
    | zero => exact absurd HA.out (by simp [tammyref01_Find.l0])
    | succ k1 =>
      have H := HA.out
      clear HA
      simp only [tammyref01_Find.l0] at H
      by_cases c3 : x5_1 < (l0.length : Int)
      · rw [if_pos c3] at H
        have c3b0 : decide (x5_1 < (l0.length : Int)) = true := decide_eq_true c3
        clear c3
        by_cases c4 : 0 ≤ x5_1
        · rw [if_pos c4] at H
          have c4b0 : decide (0 ≤ x5_1) = true := decide_eq_true c4
          clear c4
          by_cases c5 : ((rd_T52 l0 x5_1).f0).toList = a1.toList
          · rw [if_pos c5] at H
            have c5b0 : (((rd_T52 l0 x5_1).f0).toList == a1.toList) = true := beq_iff_eq.mpr c5
            have c5b1 : (((rd_T52 l0 x5_1).f0).toList != a1.toList) = false := bne_eq_false_iff_eq.mpr c5
            clear c5
            obtain rfl := Option.some.inj H
            have p236 : 0 ≤ (x5_1 : Int) := of_decide_eq_true (by first | (with_reducible assumption) | assumption)
            have q236 : x5_1 < (l0.length : Int) := of_decide_eq_true (by first | (with_reducible assumption) | assumption)
            obtain ⟨ad236, e236, hx236_0, hx236_1⟩ := at_T52 HR0.out x5_1 p236 q236
            cases e236
            replace p236 := eq_true p236
            replace q236 := eq_true q236
            go_wp2
            go_ret
            exact ⟨by first | rfl | (simp; done) | (simp [*]; done), by repeat (first | exact Drawn0.refl _ | apply Drawn0.step)⟩
          · rw [if_neg c5] at H
            have c5b0 : (((rd_T52 l0 x5_1).f0).toList == a1.toList) = false := beq_eq_false_iff_ne.mpr c5
            have c5b1 : (((rd_T52 l0 x5_1).f0).toList != a1.toList) = true := bne_iff_ne.mpr c5
            have H' := Aside0.mk H
            clear H
            have p236 : 0 ≤ (x5_1 : Int) := of_decide_eq_true (by first | (with_reducible assumption) | assumption)
            have q236 : x5_1 < (l0.length : Int) := of_decide_eq_true (by first | (with_reducible assumption) | assumption)
            obtain ⟨ad236, e236, hx236_0, hx236_1⟩ := at_T52 HR0.out x5_1 p236 q236
            cases e236
            replace p236 := eq_true p236
            replace q236 := eq_true q236
            go_wp2
            go_roundg k1
            case measure => have := HK1.out; omega
            case rel => exact ⟨(wrap64 (x5_1 + 1)), (by first | rfl | (simp; done) | (simp [*]; done)), H', ⟨by have := HK1.out; omega⟩, by repeat (first | exact Drawn0.refl _ | apply Drawn0.step)⟩
        · rw [if_neg c4] at H
          exact absurd H (by simp)
      · rw [if_neg c3] at H
        have c3b0 : decide (x5_1 < (l0.length : Int)) = false := decide_eq_false c3
        clear c3
        obtain rfl := Option.some.inj H
        go_wp2
        go_ret
        exact ⟨by first | rfl | (simp; done) | (simp [*]; done), by repeat (first | exact Drawn0.refl _ | apply Drawn0.step)⟩

/-! ### tammyref01_Args: function 41 -/
def tammyref01_Args.l0 : Nat → ByteArray → Int → Option (Bool)
  | 0, _, _ => none
  | k + 1, x0, x3 => if x3 < (x0.size : Int) then (if 0 ≤ x3 then (if (bt x0 x3) = 43 then (tammyref01_Args.l0 k x0 (wrap64 (x3 + 1))) else (if (bt x0 x3) = 45 then (tammyref01_Args.l0 k x0 (wrap64 (x3 + 1))) else (if (bt x0 x3) = 61 then (tammyref01_Args.l0 k x0 (wrap64 (x3 + 1))) else (some false)))) else (none)) else (some (decide ((x0.size : Int) ≤ 8)))
def tammyref01_Args.f (k : Nat) (a0 : ByteArray) : Option (Bool) := tammyref01_Args.l0 k a0 0
theorem tammyref01_Args.mono_l : ∀ k, (∀ y0 y1, LeO (tammyref01_Args.l0 k y0 y1) (tammyref01_Args.l0 (k + 1) y0 y1))
  | 0 => fun _ _ r h => by simp [tammyref01_Args.l0] at h
  | k + 1 => by
    have ih0 := tammyref01_Args.mono_l k
    · intro y0 y1
      unfold tammyref01_Args.l0
      repeat' first
      | (with_reducible exact ih0 _ _)
      | (with_reducible exact LeO.refl _)
      | (with_reducible exact LeO.none _)
      | (with_reducible refine LeO.ite ?_ ?_)
      | (with_reducible refine LeO.bind ?_ (fun _ => ?_))
      | exact ih0 _ _
      | exact LeO.none _
      | refine LeO.ite ?_ ?_
      | refine LeO.bind ?_ (fun _ => ?_)
theorem tammyref01_Args.mono : ∀ a0 k, LeO (tammyref01_Args.f k a0) (tammyref01_Args.f (k + 1) a0) := by
  intro a0 k
  have ih0 := tammyref01_Args.mono_l k
  unfold tammyref01_Args.f
  repeat' first
      | (with_reducible exact ih0 _ _)
      | (with_reducible exact LeO.refl _)
      | (with_reducible exact LeO.none _)
      | (with_reducible refine LeO.ite ?_ ?_)
      | (with_reducible refine LeO.bind ?_ (fun _ => ?_))
      | exact ih0 _ _
      | exact LeO.none _
      | refine LeO.ite ?_ ?_
      | refine LeO.bind ?_ (fun _ => ?_)
set_option maxHeartbeats 8000000 in
set_option maxRecDepth 100000 in
theorem tammyref01_Args.calls (k : Nat) (a0 : ByteArray) (r : Bool) (w : World) (h : tammyref01_Args.f k a0 = some r) :
    Calls Try.prog 41 #[.string a0] w fun e w' => e = .returned (.bool r) ∧ Drawn0 w w' := by
  have H : (tammyref01_Args.l0 k a0 0) = some r := h
  clear h
  have H' := Aside0.mk H
  clear H
  go_enter Try.func41, Try.ntmps41
  go_wp2
  go_loopg [3] k (fun kq v3 w' => ∃ (x3_1 : Int), v3 = .int .i64 x3_1 ∧ Aside0 (tammyref01_Args.l0 kq a0 x3_1 = some r) ∧ Aside0 (kq ≤ k) ∧ Drawn0 w w')
  case atStart => exact ⟨(0), (by first | rfl | (simp; done) | (simp [*]; done)), H', ⟨Nat.le_refl _⟩, by repeat (first | exact Drawn0.refl _ | apply Drawn0.step)⟩
  case round =>
    clear H'
    obtain ⟨x3_1, rfl, HA, HK1, ⟨m1, rfl⟩⟩ := hrel
    cases gk with
    | zero => exact absurd HA.out (by simp [tammyref01_Args.l0])
    | succ k1 =>
      have H := HA.out
      clear HA
      simp only [tammyref01_Args.l0] at H
      by_cases c2 : x3_1 < (a0.size : Int)
      · rw [if_pos c2] at H
        have c2b0 : decide (x3_1 < (a0.size : Int)) = true := decide_eq_true c2
        clear c2
        by_cases c3 : 0 ≤ x3_1
        · rw [if_pos c3] at H
          have c3b0 : decide (0 ≤ x3_1) = true := decide_eq_true c3
          clear c3
          by_cases c5 : (bt a0 x3_1) = 43
          · rw [if_pos c5] at H
            have c5b0 : ((bt a0 x3_1) == 43) = true := beq_iff_eq.mpr c5
            have c5b1 : ((bt a0 x3_1) != 43) = false := bne_eq_false_iff_eq.mpr c5
            clear c5
            have H' := Aside0.mk H
            clear H
            have p4 : 0 ≤ (x3_1 : Int) := of_decide_eq_true (by first | (with_reducible assumption) | assumption)
            have q4 : x3_1 < (a0.size : Int) := of_decide_eq_true (by first | (with_reducible assumption) | assumption)
            have hx4 := bt_at a0 x3_1
            replace p4 := eq_true p4
            replace q4 := eq_true q4
            go_wp2
            go_roundg k1
            case measure => have := HK1.out; omega
            case rel => exact ⟨(wrap64 (x3_1 + 1)), (by first | rfl | (simp; done) | (simp [*]; done)), H', ⟨by have := HK1.out; omega⟩, by repeat (first | exact Drawn0.refl _ | apply Drawn0.step)⟩
          · rw [if_neg c5] at H
            have c5b0 : ((bt a0 x3_1) == 43) = false := beq_eq_false_iff_ne.mpr c5
            have c5b1 : ((bt a0 x3_1) != 43) = true := bne_iff_ne.mpr c5
            by_cases c7 : (bt a0 x3_1) = 45
            · rw [if_pos c7] at H
              have c7b0 : ((bt a0 x3_1) == 45) = true := beq_iff_eq.mpr c7
              have c7b1 : ((bt a0 x3_1) != 45) = false := bne_eq_false_iff_eq.mpr c7
              clear c7
              have H' := Aside0.mk H
              clear H
              have p4 : 0 ≤ (x3_1 : Int) := of_decide_eq_true (by first | (with_reducible assumption) | assumption)
              have q4 : x3_1 < (a0.size : Int) := of_decide_eq_true (by first | (with_reducible assumption) | assumption)
              have hx4 := bt_at a0 x3_1
              replace p4 := eq_true p4
              replace q4 := eq_true q4
              have p6 : 0 ≤ (x3_1 : Int) := of_decide_eq_true (by first | (with_reducible assumption) | assumption)
              have q6 : x3_1 < (a0.size : Int) := of_decide_eq_true (by first | (with_reducible assumption) | assumption)
              have hx6 := bt_at a0 x3_1
              replace p6 := eq_true p6
              replace q6 := eq_true q6
              go_wp2
              go_roundg k1
              case measure => have := HK1.out; omega
              case rel => exact ⟨(wrap64 (x3_1 + 1)), (by first | rfl | (simp; done) | (simp [*]; done)), H', ⟨by have := HK1.out; omega⟩, by repeat (first | exact Drawn0.refl _ | apply Drawn0.step)⟩
            · rw [if_neg c7] at H
              have c7b0 : ((bt a0 x3_1) == 45) = false := beq_eq_false_iff_ne.mpr c7
              have c7b1 : ((bt a0 x3_1) != 45) = true := bne_iff_ne.mpr c7
              by_cases c9 : (bt a0 x3_1) = 61
              · rw [if_pos c9] at H
                have c9b0 : ((bt a0 x3_1) == 61) = true := beq_iff_eq.mpr c9
                have c9b1 : ((bt a0 x3_1) != 61) = false := bne_eq_false_iff_eq.mpr c9
                clear c9
                have H' := Aside0.mk H
                clear H
                have p4 : 0 ≤ (x3_1 : Int) := of_decide_eq_true (by first | (with_reducible assumption) | assumption)
                have q4 : x3_1 < (a0.size : Int) := of_decide_eq_true (by first | (with_reducible assumption) | assumption)
                have hx4 := bt_at a0 x3_1
                replace p4 := eq_true p4
                replace q4 := eq_true q4
                have p6 : 0 ≤ (x3_1 : Int) := of_decide_eq_true (by first | (with_reducible assumption) | assumption)
                have q6 : x3_1 < (a0.size : Int) := of_decide_eq_true (by first | (with_reducible assumption) | assumption)
                have hx6 := bt_at a0 x3_1
                replace p6 := eq_true p6
                replace q6 := eq_true q6
                have p8 : 0 ≤ (x3_1 : Int) := of_decide_eq_true (by first | (with_reducible assumption) | assumption)
                have q8 : x3_1 < (a0.size : Int) := of_decide_eq_true (by first | (with_reducible assumption) | assumption)
                have hx8 := bt_at a0 x3_1
                replace p8 := eq_true p8
                replace q8 := eq_true q8
                go_wp2
                go_roundg k1
                case measure => have := HK1.out; omega
                case rel => exact ⟨(wrap64 (x3_1 + 1)), (by first | rfl | (simp; done) | (simp [*]; done)), H', ⟨by have := HK1.out; omega⟩, by repeat (first | exact Drawn0.refl _ | apply Drawn0.step)⟩
              · rw [if_neg c9] at H
                have c9b0 : ((bt a0 x3_1) == 61) = false := beq_eq_false_iff_ne.mpr c9
                have c9b1 : ((bt a0 x3_1) != 61) = true := bne_iff_ne.mpr c9
                obtain rfl := Option.some.inj H
                have p4 : 0 ≤ (x3_1 : Int) := of_decide_eq_true (by first | (with_reducible assumption) | assumption)
                have q4 : x3_1 < (a0.size : Int) := of_decide_eq_true (by first | (with_reducible assumption) | assumption)
                have hx4 := bt_at a0 x3_1
                replace p4 := eq_true p4
                replace q4 := eq_true q4
                have p6 : 0 ≤ (x3_1 : Int) := of_decide_eq_true (by first | (with_reducible assumption) | assumption)
                have q6 : x3_1 < (a0.size : Int) := of_decide_eq_true (by first | (with_reducible assumption) | assumption)
                have hx6 := bt_at a0 x3_1
                replace p6 := eq_true p6
                replace q6 := eq_true q6
                have p8 : 0 ≤ (x3_1 : Int) := of_decide_eq_true (by first | (with_reducible assumption) | assumption)
                have q8 : x3_1 < (a0.size : Int) := of_decide_eq_true (by first | (with_reducible assumption) | assumption)
                have hx8 := bt_at a0 x3_1
                replace p8 := eq_true p8
                replace q8 := eq_true q8
                go_wp2
                go_ret
                exact ⟨by first | rfl | (simp; done) | (simp [*]; done), by repeat (first | exact Drawn0.refl _ | apply Drawn0.step)⟩
        · rw [if_neg c3] at H
          exact absurd H (by simp)
      · rw [if_neg c2] at H
        have c2b0 : decide (x3_1 < (a0.size : Int)) = false := decide_eq_false c2
        clear c2
        obtain rfl := Option.some.inj H
        go_wp2
        go_ret
        exact ⟨by first | rfl | (simp; done) | (simp [*]; done), by repeat (first | exact Drawn0.refl _ | apply Drawn0.step)⟩

end Go.Proofs.Ytgbickkmfjngbaa.K
