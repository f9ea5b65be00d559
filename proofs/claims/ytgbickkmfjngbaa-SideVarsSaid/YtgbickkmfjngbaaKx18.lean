-- Laid by a program of this session (wip/gprint.py) over the kit's print of the translation; Lean checks it.
import Derived.Test.YtgbickkmfjngbaaKx0
import Derived.Test.YtgbickkmfjngbaaKx5
import Derived.Test.YtgbickkmfjngbaaKx6
import Derived.Test.YtgbickkmfjngbaaKx10
namespace Go.Proofs.Ytgbickkmfjngbaa.K
open Go.RowKit Go.Proofs.YtgbickkmfjngbaaW.PrintWords Go.Proofs.YtgbickkmfjngbaaW.PrintLast Go.Proofs.YtgbickkmfjngbaaG.Words
set_option linter.unusedVariables false
set_option linter.unusedSimpArgs false

/-! ### tammylaw08_SideVars: function 6 -/
mutual
def tammylaw08_SideVars.j0 : Nat → List (S38) → ByteArray → Bool → Bool → Option (Bool)
  | 0, _, _, _, _ => none
  | k + 1, x0, x1, x5, x24 => if x24 = true then (some x5) else ((side_Vars.f k x0).bind fun t364 => (tammylaw08_SideVars.l0 k x0 x1 x5 t364 false 0))
def tammylaw08_SideVars.l0 : Nat → List (S38) → ByteArray → Bool → List ByteArray → Bool → Int → Option (Bool)
  | 0, _, _, _, _, _, _ => none
  | k + 1, x0, x1, x5, x6, x7, x8 => if x8 < (x0.length : Int) then (if x7 = true then (tammylaw08_SideVars.l0 k x0 x1 x5 x6 true (wrap64 (x8 + 1))) else (if 0 ≤ x8 then (if ((rd_T38 x0 x8).f0) = 2 then (tammylaw08_SideVars.l0 k x0 x1 x5 x6 (((rd_T38 x0 x8).f1).toList == x1.toList) (wrap64 (x8 + 1))) else (tammylaw08_SideVars.l0 k x0 x1 x5 x6 false (wrap64 (x8 + 1)))) else (none))) else (tammylaw08_SideVars.l1 k x0 x1 x5 x6 x7 0 0)
def tammylaw08_SideVars.l1 : Nat → List (S38) → ByteArray → Bool → List ByteArray → Bool → Int → Int → Option (Bool)
  | 0, _, _, _, _, _, _, _ => none
  | k + 1, x0, x1, x5, x6, x7, x9, x10 => if x10 < (x6.length : Int) then (if 0 ≤ x10 then (if (rdOf ByteArray.empty x6 x10).toList = x1.toList then (tammylaw08_SideVars.l1 k x0 x1 x5 x6 x7 (wrap64 (x9 + 1)) (wrap64 (x10 + 1))) else (tammylaw08_SideVars.l1 k x0 x1 x5 x6 x7 x9 (wrap64 (x10 + 1)))) else (none)) else (if x5 = true then (if ((x9 == 1) == x7) = true then (if x9 ≤ 1 then (some (decide ((x6.length : Int) ≤ (x0.length : Int)))) else (some false)) else (some false)) else (some false))
end
def tammylaw08_SideVars.f (k : Nat) (l0 : List (S38)) (a1 : ByteArray) : Option (Bool) := (tammylaw08_shown.f k).bind fun t361 => ((tammyref07_Few.f k l0).bind fun t362 => (if t362 = true then ((tammyref07_Right.f k l0).bind fun t363 => (if t363 = true then (tammylaw08_SideVars.j0 k l0 a1 t361 (decide ((a1.size : Int) > 50))) else (tammylaw08_SideVars.j0 k l0 a1 t361 true))) else (tammylaw08_SideVars.j0 k l0 a1 t361 true)))
theorem tammylaw08_SideVars.mono_l : ∀ k, (∀ y0 y1 y2 y3, LeO (tammylaw08_SideVars.j0 k y0 y1 y2 y3) (tammylaw08_SideVars.j0 (k + 1) y0 y1 y2 y3)) ∧ (∀ y0 y1 y2 y3 y4 y5, LeO (tammylaw08_SideVars.l0 k y0 y1 y2 y3 y4 y5) (tammylaw08_SideVars.l0 (k + 1) y0 y1 y2 y3 y4 y5)) ∧ (∀ y0 y1 y2 y3 y4 y5 y6, LeO (tammylaw08_SideVars.l1 k y0 y1 y2 y3 y4 y5 y6) (tammylaw08_SideVars.l1 (k + 1) y0 y1 y2 y3 y4 y5 y6))
  | 0 => ⟨fun _ _ _ _ r h => by simp [tammylaw08_SideVars.j0] at h, fun _ _ _ _ _ _ r h => by simp [tammylaw08_SideVars.l0] at h, fun _ _ _ _ _ _ _ r h => by simp [tammylaw08_SideVars.l1] at h⟩
  | k + 1 => by
    obtain ⟨ih0, ih1, ih2⟩ := tammylaw08_SideVars.mono_l k
    refine ⟨?_, ?_, ?_⟩
    · intro y0 y1 y2 y3
      unfold tammylaw08_SideVars.j0
      repeat' first
      | (with_reducible exact ih0 _ _ _ _)
      | (with_reducible exact ih1 _ _ _ _ _ _)
      | (with_reducible exact ih2 _ _ _ _ _ _ _)
      | (with_reducible exact side_Vars.mono _ _)
      | (with_reducible exact tammylaw08_shown.mono _)
      | (with_reducible exact tammyref07_Few.mono _ _)
      | (with_reducible exact tammyref07_Right.mono _ _)
      | (with_reducible exact LeO.refl _)
      | (with_reducible exact LeO.none _)
      | (with_reducible refine LeO.ite ?_ ?_)
      | (with_reducible refine LeO.bind ?_ (fun _ => ?_))
      | exact ih0 _ _ _ _
      | exact ih1 _ _ _ _ _ _
      | exact ih2 _ _ _ _ _ _ _
      | exact side_Vars.mono _ _
      | exact tammylaw08_shown.mono _
      | exact tammyref07_Few.mono _ _
      | exact tammyref07_Right.mono _ _
      | exact LeO.none _
      | refine LeO.ite ?_ ?_
      | refine LeO.bind ?_ (fun _ => ?_)
    · intro y0 y1 y2 y3 y4 y5
      unfold tammylaw08_SideVars.l0
      repeat' first
      | (with_reducible exact ih0 _ _ _ _)
      | (with_reducible exact ih1 _ _ _ _ _ _)
      | (with_reducible exact ih2 _ _ _ _ _ _ _)
      | (with_reducible exact side_Vars.mono _ _)
      | (with_reducible exact tammylaw08_shown.mono _)
      | (with_reducible exact tammyref07_Few.mono _ _)
      | (with_reducible exact tammyref07_Right.mono _ _)
      | (with_reducible exact LeO.refl _)
      | (with_reducible exact LeO.none _)
      | (with_reducible refine LeO.ite ?_ ?_)
      | (with_reducible refine LeO.bind ?_ (fun _ => ?_))
      | exact ih0 _ _ _ _
      | exact ih1 _ _ _ _ _ _
      | exact ih2 _ _ _ _ _ _ _
      | exact side_Vars.mono _ _
      | exact tammylaw08_shown.mono _
      | exact tammyref07_Few.mono _ _
      | exact tammyref07_Right.mono _ _
      | exact LeO.none _
      | refine LeO.ite ?_ ?_
      | refine LeO.bind ?_ (fun _ => ?_)
    · intro y0 y1 y2 y3 y4 y5 y6
      unfold tammylaw08_SideVars.l1
      repeat' first
      | (with_reducible exact ih0 _ _ _ _)
      | (with_reducible exact ih1 _ _ _ _ _ _)
      | (with_reducible exact ih2 _ _ _ _ _ _ _)
      | (with_reducible exact side_Vars.mono _ _)
      | (with_reducible exact tammylaw08_shown.mono _)
      | (with_reducible exact tammyref07_Few.mono _ _)
      | (with_reducible exact tammyref07_Right.mono _ _)
      | (with_reducible exact LeO.refl _)
      | (with_reducible exact LeO.none _)
      | (with_reducible refine LeO.ite ?_ ?_)
      | (with_reducible refine LeO.bind ?_ (fun _ => ?_))
      | exact ih0 _ _ _ _
      | exact ih1 _ _ _ _ _ _
      | exact ih2 _ _ _ _ _ _ _
      | exact side_Vars.mono _ _
      | exact tammylaw08_shown.mono _
      | exact tammyref07_Few.mono _ _
      | exact tammyref07_Right.mono _ _
      | exact LeO.none _
      | refine LeO.ite ?_ ?_
      | refine LeO.bind ?_ (fun _ => ?_)
theorem tammylaw08_SideVars.mono : ∀ a0 a1 k, LeO (tammylaw08_SideVars.f k a0 a1) (tammylaw08_SideVars.f (k + 1) a0 a1) := by
  intro a0 a1 k
  obtain ⟨ih0, ih1, ih2⟩ := tammylaw08_SideVars.mono_l k
  unfold tammylaw08_SideVars.f
  repeat' first
      | (with_reducible exact ih0 _ _ _ _)
      | (with_reducible exact ih1 _ _ _ _ _ _)
      | (with_reducible exact ih2 _ _ _ _ _ _ _)
      | (with_reducible exact side_Vars.mono _ _)
      | (with_reducible exact tammylaw08_shown.mono _)
      | (with_reducible exact tammyref07_Few.mono _ _)
      | (with_reducible exact tammyref07_Right.mono _ _)
      | (with_reducible exact LeO.refl _)
      | (with_reducible exact LeO.none _)
      | (with_reducible refine LeO.ite ?_ ?_)
      | (with_reducible refine LeO.bind ?_ (fun _ => ?_))
      | exact ih0 _ _ _ _
      | exact ih1 _ _ _ _ _ _
      | exact ih2 _ _ _ _ _ _ _
      | exact side_Vars.mono _ _
      | exact tammylaw08_shown.mono _
      | exact tammyref07_Few.mono _ _
      | exact tammyref07_Right.mono _ _
      | exact LeO.none _
      | refine LeO.ite ?_ ?_
      | refine LeO.bind ?_ (fun _ => ?_)
set_option maxHeartbeats 8000000 in
set_option maxRecDepth 100000 in
theorem tammylaw08_SideVars.calls (k : Nat) (A0 : Option Addr) (c0 : Nat) (l0 : List (S38)) (a1 : ByteArray) (r : Bool) (w : World) (hr0 : Kd.C k38 w A0 l0.length l0) (hc0 : l0.length ≤ c0) (h : tammylaw08_SideVars.f k l0 a1 = some r) :
    Calls Try.prog 6 #[.slice A0 l0.length c0, .string a1] w fun e w' => e = .returned (.bool r) ∧ Below w.heap.size w w' := by
  have HR0 := Aside0.mk hr0
  have HC0 := Aside0.mk hc0
  clear hr0 hc0
  have HB := Aside0.mk (Below.refl w.heap.size w)
  have H : ((tammylaw08_shown.f k).bind fun t361 => ((tammyref07_Few.f k l0).bind fun t362 => (if t362 = true then ((tammyref07_Right.f k l0).bind fun t363 => (if t363 = true then (tammylaw08_SideVars.j0 k l0 a1 t361 (decide ((a1.size : Int) > 50))) else (tammylaw08_SideVars.j0 k l0 a1 t361 true))) else (tammylaw08_SideVars.j0 k l0 a1 t361 true)))) = some r := h
  clear h
  replace H := Option.bind_eq_some_iff.mp H
  obtain ⟨t361, A30, H⟩ := H
  replace H : ((tammyref07_Few.f k l0).bind fun t362 => (if t362 = true then ((tammyref07_Right.f k l0).bind fun t363 => (if t363 = true then (tammylaw08_SideVars.j0 k l0 a1 t361 (decide ((a1.size : Int) > 50))) else (tammylaw08_SideVars.j0 k l0 a1 t361 true))) else (tammylaw08_SideVars.j0 k l0 a1 t361 true))) = some r := H
  have A3 := Aside0.mk A30
  clear A30
  have HC4 := Aside0.mk H
  clear H
  go_enter Try.func6, Try.ntmps6
  go_upto_region 2 with (first | ((with_reducible refine gate_callee (f := 10) rfl ?_); refine goesL_ (some 11) rfl rfl Try.func10 (by kernel_rfl) rfl #[] rfl (by (try simp only [List.map_toArray, List.map_cons, List.map_nil]); first | done | rfl | (simp only [List.length_drop, List.length_take]; rfl)) ?_; (with_reducible refine (tammylaw08_shown.calls k  t361 _ A3.out).mono ?_); rintro e w5 ⟨rfl, hb⟩; refine ⟨_, rfl, ?_⟩; have n0_ := Aside0.mk (below_step (by repeat (first | (with_reducible first | exact HB.out | apply below_alloc | apply pw_below_drewN | apply below_drew1) | exact HB.out)) hb); clear HB; have HB := n0_; clear n0_; (try clear hb); (try clear hb2); (try clear hk); (try clear hi)))
  (try simp only [Act.put, List.setIfInBounds_toArray, List.set_cons_zero, List.set_cons_succ])
  go_cut [24] (fun v24 wc => ∃ (kq : Nat) (x24_3 : Bool), v24 = .bool x24_3 ∧ Aside0 (tammylaw08_SideVars.j0 kq l0 a1 t361 x24_3 = some r) ∧ Aside0 (kq ≤ k) ∧ Aside0 (Below w.heap.size w wc))
  case first =>
    have H := HC4.out
    clear HC4
    replace H := Option.bind_eq_some_iff.mp H
    obtain ⟨t362, A60, H⟩ := H
    replace H : (if t362 = true then ((tammyref07_Right.f k l0).bind fun t363 => (if t363 = true then (tammylaw08_SideVars.j0 k l0 a1 t361 (decide ((a1.size : Int) > 50))) else (tammylaw08_SideVars.j0 k l0 a1 t361 true))) else (tammylaw08_SideVars.j0 k l0 a1 t361 true)) = some r := H
    have A6 := Aside0.mk A60
    clear A60
    by_cases c7 : t362 = true
    · subst c7
      have H1 : ((tammyref07_Right.f k l0).bind fun t363 => (if t363 = true then (tammylaw08_SideVars.j0 k l0 a1 t361 (decide ((a1.size : Int) > 50))) else (tammylaw08_SideVars.j0 k l0 a1 t361 true))) = some r := by rw [if_pos rfl] at H; exact H
      clear H
      have H := H1
      clear H1
      replace H := Option.bind_eq_some_iff.mp H
      obtain ⟨t363, A80, H⟩ := H
      replace H : (if t363 = true then (tammylaw08_SideVars.j0 k l0 a1 t361 (decide ((a1.size : Int) > 50))) else (tammylaw08_SideVars.j0 k l0 a1 t361 true)) = some r := H
      have A8 := Aside0.mk A80
      clear A80
      by_cases c9 : t363 = true
      · subst c9
        have H1 : (tammylaw08_SideVars.j0 k l0 a1 t361 (decide ((a1.size : Int) > 50))) = some r := by rw [if_pos rfl] at H; exact H
        clear H
        have H := H1
        clear H1
        have H' := Aside0.mk H
        clear H
        go_wp2_with (first | ((with_reducible refine gate_callee (f := 20) rfl ?_); refine goesL_ (some 13) rfl rfl Try.func20 (by kernel_rfl) rfl #[.slice A0 l0.length c0] rfl (by (try simp only [List.map_toArray, List.map_cons, List.map_nil]); first | done | rfl | (simp only [List.length_drop, List.length_take]; rfl)) ?_; (with_reducible refine (tammyref07_Few.calls k _ _ l0 true _ ?side1 ?side2 A6.out).mono ?_); (case side1 => repeat (first | exact (Kd.C_below HR0.out HB.out) | (with_reducible refine Kd.C_alloc ?_ _) | (with_reducible refine Kd.C_drewN ?_ _) | (with_reducible refine Kd.C_drew ?_))); (case side2 => exact HC0.out); rintro e w' ⟨rfl, ⟨nd, rfl⟩⟩; refine ⟨_, rfl, ?_⟩) | (go_at_call 21; (with_reducible refine (tammyref07_Right.calls k _ _ l0 true _ ?side1 ?side2 A8.out).mono ?_); (case side1 => repeat (first | exact (Kd.C_below HR0.out (by repeat (first | (with_reducible first | exact HB.out | apply below_alloc | apply pw_below_drewN | apply below_drew1) | exact HB.out))) | (with_reducible refine Kd.C_alloc ?_ _) | (with_reducible refine Kd.C_drewN ?_ _) | (with_reducible refine Kd.C_drew ?_))); (case side2 => exact HC0.out); rintro e w10 ⟨rfl, hb⟩; have n0_ := Aside0.mk (below_step (by repeat (first | (with_reducible first | exact HB.out | apply below_alloc | apply pw_below_drewN | apply below_drew1) | exact HB.out)) hb); clear HB; have HB := n0_; clear n0_; (try clear hb); (try clear hb2); (try clear hk); (try clear hi)))
        go_meet
        case rel => exact ⟨_, (decide ((a1.size : Int) > 50)), (by first | rfl | (simp; done) | (simp [*]; done)), H', ⟨by first | omega | exact Nat.le_refl _⟩, ⟨by repeat (first | (with_reducible first | exact HB.out | apply below_alloc | apply pw_below_drewN | apply below_drew1) | exact HB.out)⟩⟩
      · replace c9 := Bool.eq_false_iff.mpr c9
        subst c9
        have H1 : (tammylaw08_SideVars.j0 k l0 a1 t361 true) = some r := by rw [if_neg (show ¬ (false = true) by decide)] at H; exact H
        clear H
        have H := H1
        clear H1
        have H' := Aside0.mk H
        clear H
        go_wp2_with (first | ((with_reducible refine gate_callee (f := 20) rfl ?_); refine goesL_ (some 13) rfl rfl Try.func20 (by kernel_rfl) rfl #[.slice A0 l0.length c0] rfl (by (try simp only [List.map_toArray, List.map_cons, List.map_nil]); first | done | rfl | (simp only [List.length_drop, List.length_take]; rfl)) ?_; (with_reducible refine (tammyref07_Few.calls k _ _ l0 true _ ?side1 ?side2 A6.out).mono ?_); (case side1 => repeat (first | exact (Kd.C_below HR0.out HB.out) | (with_reducible refine Kd.C_alloc ?_ _) | (with_reducible refine Kd.C_drewN ?_ _) | (with_reducible refine Kd.C_drew ?_))); (case side2 => exact HC0.out); rintro e w' ⟨rfl, ⟨nd, rfl⟩⟩; refine ⟨_, rfl, ?_⟩) | (go_at_call 21; (with_reducible refine (tammyref07_Right.calls k _ _ l0 false _ ?side1 ?side2 A8.out).mono ?_); (case side1 => repeat (first | exact (Kd.C_below HR0.out (by repeat (first | (with_reducible first | exact HB.out | apply below_alloc | apply pw_below_drewN | apply below_drew1) | exact HB.out))) | (with_reducible refine Kd.C_alloc ?_ _) | (with_reducible refine Kd.C_drewN ?_ _) | (with_reducible refine Kd.C_drew ?_))); (case side2 => exact HC0.out); rintro e w11 ⟨rfl, hb⟩; have n0_ := Aside0.mk (below_step (by repeat (first | (with_reducible first | exact HB.out | apply below_alloc | apply pw_below_drewN | apply below_drew1) | exact HB.out)) hb); clear HB; have HB := n0_; clear n0_; (try clear hb); (try clear hb2); (try clear hk); (try clear hi)))
        go_meet
        case rel => exact ⟨_, (true), (by first | rfl | (simp; done) | (simp [*]; done)), H', ⟨by first | omega | exact Nat.le_refl _⟩, ⟨by repeat (first | (with_reducible first | exact HB.out | apply below_alloc | apply pw_below_drewN | apply below_drew1) | exact HB.out)⟩⟩
    · replace c7 := Bool.eq_false_iff.mpr c7
      subst c7
      have H1 : (tammylaw08_SideVars.j0 k l0 a1 t361 true) = some r := by rw [if_neg (show ¬ (false = true) by decide)] at H; exact H
      clear H
      have H := H1
      clear H1
      have H' := Aside0.mk H
      clear H
      go_wp2_with (first | ((with_reducible refine gate_callee (f := 20) rfl ?_); refine goesL_ (some 13) rfl rfl Try.func20 (by kernel_rfl) rfl #[.slice A0 l0.length c0] rfl (by (try simp only [List.map_toArray, List.map_cons, List.map_nil]); first | done | rfl | (simp only [List.length_drop, List.length_take]; rfl)) ?_; (with_reducible refine (tammyref07_Few.calls k _ _ l0 false _ ?side1 ?side2 A6.out).mono ?_); (case side1 => repeat (first | exact (Kd.C_below HR0.out HB.out) | (with_reducible refine Kd.C_alloc ?_ _) | (with_reducible refine Kd.C_drewN ?_ _) | (with_reducible refine Kd.C_drew ?_))); (case side2 => exact HC0.out); rintro e w' ⟨rfl, ⟨nd, rfl⟩⟩; refine ⟨_, rfl, ?_⟩))
      go_meet
      case rel => exact ⟨_, (true), (by first | rfl | (simp; done) | (simp [*]; done)), H', ⟨by first | omega | exact Nat.le_refl _⟩, ⟨by repeat (first | (with_reducible first | exact HB.out | apply below_alloc | apply pw_below_drewN | apply below_drew1) | exact HB.out)⟩⟩
  case rest =>
    clear HC4
    try clear c1
    try clear c2
    try clear p2
    try clear c6
    try clear c7
    try clear c9
    try clear c10
    obtain ⟨kq, x24_3, rfl, HA, HJ3, HB⟩ := hcut
    cases kq with
    | zero => exact absurd HA.out (by simp [tammylaw08_SideVars.j0])
    | succ kj3 =>
      have H := HA.out
      clear HA
      simp only [tammylaw08_SideVars.j0] at H
      by_cases c12 : x24_3 = true
      · subst c12
        have H1 : (some t361) = some r := by rw [if_pos rfl] at H; exact H
        clear H
        have H := H1
        clear H1
        obtain rfl := Option.some.inj H
        go_wp2
        go_ret
        exact ⟨by first | rfl | (simp [errW_none, errW_some] <;> rfl) | (simp [*, errW_none, errW_some] <;> rfl), by repeat (first | (with_reducible first | exact HB.out | apply below_alloc | apply pw_below_drewN | apply below_drew1) | exact HB.out)⟩
      · replace c12 := Bool.eq_false_iff.mpr c12
        subst c12
        have H1 : ((side_Vars.f kj3 l0).bind fun t364 => (tammylaw08_SideVars.l0 kj3 l0 a1 t361 t364 false 0)) = some r := by rw [if_neg (show ¬ (false = true) by decide)] at H; exact H
        clear H
        have H := H1
        clear H1
        replace H := Option.bind_eq_some_iff.mp H
        obtain ⟨t364, A130, H⟩ := H
        replace H : (tammylaw08_SideVars.l0 kj3 l0 a1 t361 t364 false 0) = some r := H
        have A13 := Aside0.mk A130
        clear A130
        have H' := Aside0.mk H
        clear H
        go_wp2_with (first | ((with_reducible refine gate_callee (f := 17) rfl ?_); refine goesL_ (some 27) rfl rfl Try.func17 (by kernel_rfl) rfl #[.slice A0 l0.length c0] rfl (by (try simp only [List.map_toArray, List.map_cons, List.map_nil]); first | done | rfl | (simp only [List.length_drop, List.length_take]; rfl)) ?_; (with_reducible refine (side_Vars.calls kj3 _ _ l0 t364 _ ?side1 ?side2 A13.out).mono ?_); (case side1 => repeat (first | exact (Kd.C_below HR0.out HB.out) | (with_reducible refine Kd.C_alloc ?_ _) | (with_reducible refine Kd.C_drewN ?_ _) | (with_reducible refine Kd.C_drew ?_))); (case side2 => exact HC0.out); rintro e w14 ⟨v365, rfl, ho0, hb⟩; refine ⟨_, rfl, ?_⟩; have n0_ := Aside0.mk (Kd.R_lower ho0 (below_size (by repeat (first | (with_reducible first | exact HB.out | apply below_alloc | apply pw_below_drewN | apply below_drew1) | exact HB.out)))); have n1_ := Aside0.mk (below_step (by repeat (first | (with_reducible first | exact HB.out | apply below_alloc | apply pw_below_drewN | apply below_drew1) | exact HB.out)) hb); clear HB; have HO366 := n0_; have HB := n1_; clear n0_ n1_; (try clear hb); (try clear hb2); (try clear hk); (try clear hi); (try clear ho0)))
        go_loopg [7, 8] kj3 (fun kq v7 v8 w' => ∃ (x7_2 : Bool) (x8_2 : Int), v7 = .bool x7_2 ∧ v8 = .int .i64 x8_2 ∧ Aside0 (tammylaw08_SideVars.l0 kq l0 a1 t361 t364 x7_2 x8_2 = some r) ∧ Aside0 (kq ≤ kj3) ∧ Aside0 (Kd.R Kd.string 9 w' w.heap.size (fun _ => True) v365 t364) ∧ Aside0 (Below w.heap.size w w'))
        case atStart => exact ⟨(false), (0), (by first | rfl | (simp; done) | (simp [*]; done)), (by first | rfl | (simp; done) | (simp [*]; done)), H', ⟨Nat.le_refl _⟩, ⟨by (with_reducible repeat (first | apply Kd.R_alloc | apply Kd.R_drewN | apply Kd.R_drew)); exact HO366.out⟩, ⟨by repeat (first | (with_reducible first | exact HB.out | apply below_alloc | apply pw_below_drewN | apply below_drew1) | exact HB.out)⟩⟩
        case round =>
          clear H'
          try clear c1
          try clear c2
          try clear p2
          try clear c6
          try clear c7
          try clear c9
          try clear c10
          try clear c12
          try clear p2
          obtain ⟨x7_2, x8_2, rfl, rfl, HA, HK2, HO_6, HB⟩ := hrel
          cases gk with
          | zero => exact absurd HA.out (by simp [tammylaw08_SideVars.l0])
          | succ k2 =>
            have H := HA.out
            clear HA
            simp only [tammylaw08_SideVars.l0] at H
            by_cases c15 : x8_2 < (l0.length : Int)
            · rw [if_pos c15] at H
              have c15b0 : decide (x8_2 < (l0.length : Int)) = true := decide_eq_true c15
              clear c15
              by_cases c16 : x7_2 = true
              · subst c16
                have H1 : (tammylaw08_SideVars.l0 k2 l0 a1 t361 t364 true (wrap64 (x8_2 + 1))) = some r := by rw [if_pos rfl] at H; exact H
                clear H
                have H := H1
                clear H1
                have H' := Aside0.mk H
                clear H
                go_wp2
                go_roundg k2
                case measure => have := HJ3.out; have := HK2.out; omega
                case rel => exact ⟨(true), (wrap64 (x8_2 + 1)), (by first | rfl | (simp; done) | (simp [*]; done)), (by first | rfl | (simp; done) | (simp [*]; done)), H', ⟨by have := HJ3.out; have := HK2.out; omega⟩, ⟨by (with_reducible repeat (first | apply Kd.R_alloc | apply Kd.R_drewN | apply Kd.R_drew)); exact HO_6.out⟩, ⟨by repeat (first | (with_reducible first | exact HB.out | apply below_alloc | apply pw_below_drewN | apply below_drew1) | exact HB.out)⟩⟩
              · replace c16 := Bool.eq_false_iff.mpr c16
                subst c16
                have H1 : (if 0 ≤ x8_2 then (if ((rd_T38 l0 x8_2).f0) = 2 then (tammylaw08_SideVars.l0 k2 l0 a1 t361 t364 (((rd_T38 l0 x8_2).f1).toList == a1.toList) (wrap64 (x8_2 + 1))) else (tammylaw08_SideVars.l0 k2 l0 a1 t361 t364 false (wrap64 (x8_2 + 1)))) else (none)) = some r := by rw [if_neg (show ¬ (false = true) by decide)] at H; exact H
                clear H
                have H := H1
                clear H1
                by_cases c17 : 0 ≤ x8_2
                · rw [if_pos c17] at H
                  have c17b0 : decide (0 ≤ x8_2) = true := decide_eq_true c17
                  clear c17
                  by_cases c18 : ((rd_T38 l0 x8_2).f0) = 2
                  · rw [if_pos c18] at H
                    have c18b0 : (((rd_T38 l0 x8_2).f0) == 2) = true := beq_iff_eq.mpr c18
                    have c18b1 : (((rd_T38 l0 x8_2).f0) != 2) = false := bne_eq_false_iff_eq.mpr c18
                    clear c18
                    have H' := Aside0.mk H
                    clear H
                    have p367 : 0 ≤ (x8_2 : Int) := of_decide_eq_true (by first | (with_reducible assumption) | assumption)
                    have q367 : x8_2 < (l0.length : Int) := of_decide_eq_true (by first | (with_reducible assumption) | assumption)
                    obtain ⟨ad367, e367, hx367_0, hx367_1, hx367_2⟩ := at_T38 HR0.out x8_2 p367 q367
                    cases e367
                    replace hx367_0 := (HB.out.cell (World.block_lt_of_cell? w _ hx367_0)).trans hx367_0
                    replace hx367_1 := (HB.out.cell (World.block_lt_of_cell? w _ hx367_1)).trans hx367_1
                    replace hx367_2 := (HB.out.cell (World.block_lt_of_cell? w _ hx367_2)).trans hx367_2
                    replace p367 := eq_true p367
                    replace q367 := eq_true q367
                    have p368 : 0 ≤ (x8_2 : Int) := of_decide_eq_true (by first | (with_reducible assumption) | assumption)
                    have q368 : x8_2 < (l0.length : Int) := of_decide_eq_true (by first | (with_reducible assumption) | assumption)
                    obtain ⟨ad368, e368, hx368_0, hx368_1, hx368_2⟩ := at_T38 HR0.out x8_2 p368 q368
                    obtain rfl : ad367 = ad368 := (by injection e368)
                    replace hx368_0 := (HB.out.cell (World.block_lt_of_cell? w _ hx368_0)).trans hx368_0
                    replace hx368_1 := (HB.out.cell (World.block_lt_of_cell? w _ hx368_1)).trans hx368_1
                    replace hx368_2 := (HB.out.cell (World.block_lt_of_cell? w _ hx368_2)).trans hx368_2
                    replace p368 := eq_true p368
                    replace q368 := eq_true q368
                    go_wp2
                    go_roundg k2
                    case measure => have := HJ3.out; have := HK2.out; omega
                    case rel => exact ⟨((((rd_T38 l0 x8_2).f1).toList == a1.toList)), (wrap64 (x8_2 + 1)), (by first | rfl | (simp; done) | (simp [*]; done)), (by first | rfl | (simp; done) | (simp [*]; done)), H', ⟨by have := HJ3.out; have := HK2.out; omega⟩, ⟨by (with_reducible repeat (first | apply Kd.R_alloc | apply Kd.R_drewN | apply Kd.R_drew)); exact HO_6.out⟩, ⟨by repeat (first | (with_reducible first | exact HB.out | apply below_alloc | apply pw_below_drewN | apply below_drew1) | exact HB.out)⟩⟩
                  · rw [if_neg c18] at H
                    have c18b0 : (((rd_T38 l0 x8_2).f0) == 2) = false := beq_eq_false_iff_ne.mpr c18
                    have c18b1 : (((rd_T38 l0 x8_2).f0) != 2) = true := bne_iff_ne.mpr c18
                    have H' := Aside0.mk H
                    clear H
                    have p367 : 0 ≤ (x8_2 : Int) := of_decide_eq_true (by first | (with_reducible assumption) | assumption)
                    have q367 : x8_2 < (l0.length : Int) := of_decide_eq_true (by first | (with_reducible assumption) | assumption)
                    obtain ⟨ad367, e367, hx367_0, hx367_1, hx367_2⟩ := at_T38 HR0.out x8_2 p367 q367
                    cases e367
                    replace hx367_0 := (HB.out.cell (World.block_lt_of_cell? w _ hx367_0)).trans hx367_0
                    replace hx367_1 := (HB.out.cell (World.block_lt_of_cell? w _ hx367_1)).trans hx367_1
                    replace hx367_2 := (HB.out.cell (World.block_lt_of_cell? w _ hx367_2)).trans hx367_2
                    replace p367 := eq_true p367
                    replace q367 := eq_true q367
                    go_wp2
                    go_roundg k2
                    case measure => have := HJ3.out; have := HK2.out; omega
                    case rel => exact ⟨(false), (wrap64 (x8_2 + 1)), (by first | rfl | (simp; done) | (simp [*]; done)), (by first | rfl | (simp; done) | (simp [*]; done)), H', ⟨by have := HJ3.out; have := HK2.out; omega⟩, ⟨by (with_reducible repeat (first | apply Kd.R_alloc | apply Kd.R_drewN | apply Kd.R_drew)); exact HO_6.out⟩, ⟨by repeat (first | (with_reducible first | exact HB.out | apply below_alloc | apply pw_below_drewN | apply below_drew1) | exact HB.out)⟩⟩
                · rw [if_neg c17] at H
                  exact absurd H (by simp)
            · rw [if_neg c15] at H
              have c15b0 : decide (x8_2 < (l0.length : Int)) = false := decide_eq_false c15
              clear c15
              have H' := Aside0.mk H
              clear H
              go_wp2
              go_loopg [9, 10] k2 (fun kq v9 v10 w' => ∃ (x9_3 : Int) (x10_3 : Int), v9 = .int .i64 x9_3 ∧ v10 = .int .i64 x10_3 ∧ Aside0 (tammylaw08_SideVars.l1 kq l0 a1 t361 t364 x7_2 x9_3 x10_3 = some r) ∧ Aside0 (kq ≤ k2) ∧ Aside0 (Kd.R Kd.string 9 w' w.heap.size (fun _ => True) v365 t364) ∧ Aside0 (Below w.heap.size w w'))
              case atStart => exact ⟨(0), (0), (by first | rfl | (simp; done) | (simp [*]; done)), (by first | rfl | (simp; done) | (simp [*]; done)), H', ⟨Nat.le_refl _⟩, ⟨by (with_reducible repeat (first | apply Kd.R_alloc | apply Kd.R_drewN | apply Kd.R_drew)); exact HO_6.out⟩, ⟨by repeat (first | (with_reducible first | exact HB.out | apply below_alloc | apply pw_below_drewN | apply below_drew1) | exact HB.out)⟩⟩
              case round =>
                clear H'
                try clear c1
                try clear c2
                try clear p2
                try clear p3
                try clear q3
                try clear hx3
                try clear c6
                try clear p6
                try clear c7
                try clear c9
                try clear c10
                try clear c12
                try clear c15
                try clear c15b0
                try clear c16
                try clear c17
                try clear c17b0
                try clear c18
                try clear c18b0
                try clear c18b1
                try clear hx367_0
                try clear hx367_1
                try clear hx367_2
                try clear hx368_0
                try clear hx368_1
                try clear hx368_2
                try clear p2
                try clear p367
                try clear p368
                try clear q367
                try clear q368
                obtain ⟨x9_3, x10_3, rfl, rfl, HA, HK3, HO_6, HB⟩ := hrel
                cases gk with
                | zero => exact absurd HA.out (by simp [tammylaw08_SideVars.l1])
                | succ k3 =>
                  have H := HA.out
                  clear HA
                  simp only [tammylaw08_SideVars.l1] at H
                  by_cases c19 : x10_3 < (t364.length : Int)
                  · rw [if_pos c19] at H
                    have c19b0 : decide (x10_3 < (t364.length : Int)) = true := decide_eq_true c19
                    clear c19
                    by_cases c20 : 0 ≤ x10_3
                    · rw [if_pos c20] at H
                      have c20b0 : decide (0 ≤ x10_3) = true := decide_eq_true c20
                      clear c20
                      by_cases c21 : (rdOf ByteArray.empty t364 x10_3).toList = a1.toList
                      · rw [if_pos c21] at H
                        have c21b0 : ((rdOf ByteArray.empty t364 x10_3).toList == a1.toList) = true := beq_iff_eq.mpr c21
                        have c21b1 : ((rdOf ByteArray.empty t364 x10_3).toList != a1.toList) = false := bne_eq_false_iff_eq.mpr c21
                        clear c21
                        have H' := Aside0.mk H
                        clear H
                        obtain ⟨Ao22, co22, eo22⟩ := Kd.R_slice HO_6.out
                        subst eo22
                        have p369 : 0 ≤ (x10_3 : Int) := of_decide_eq_true (by first | (with_reducible assumption) | assumption)
                        have q369 : x10_3 < (t364.length : Int) := of_decide_eq_true (by first | (with_reducible assumption) | assumption)
                        obtain ⟨ad369, e369, hx369_0⟩ := Kd.at_string (Kd.R_reads' HO_6.out).2.2 x10_3 p369 q369
                        cases e369
                        replace p369 := eq_true p369
                        replace q369 := eq_true q369
                        go_wp2
                        go_roundg k3
                        case measure => have := HJ3.out; have := HK2.out; have := HK3.out; omega
                        case rel => exact ⟨(wrap64 (x9_3 + 1)), (wrap64 (x10_3 + 1)), (by first | rfl | (simp; done) | (simp [*]; done)), (by first | rfl | (simp; done) | (simp [*]; done)), H', ⟨by have := HJ3.out; have := HK2.out; have := HK3.out; omega⟩, ⟨by (with_reducible repeat (first | apply Kd.R_alloc | apply Kd.R_drewN | apply Kd.R_drew)); exact HO_6.out⟩, ⟨by repeat (first | (with_reducible first | exact HB.out | apply below_alloc | apply pw_below_drewN | apply below_drew1) | exact HB.out)⟩⟩
                      · rw [if_neg c21] at H
                        have c21b0 : ((rdOf ByteArray.empty t364 x10_3).toList == a1.toList) = false := beq_eq_false_iff_ne.mpr c21
                        have c21b1 : ((rdOf ByteArray.empty t364 x10_3).toList != a1.toList) = true := bne_iff_ne.mpr c21
                        have H' := Aside0.mk H
                        clear H
                        obtain ⟨Ao23, co23, eo23⟩ := Kd.R_slice HO_6.out
                        subst eo23
                        have p369 : 0 ≤ (x10_3 : Int) := of_decide_eq_true (by first | (with_reducible assumption) | assumption)
                        have q369 : x10_3 < (t364.length : Int) := of_decide_eq_true (by first | (with_reducible assumption) | assumption)
                        obtain ⟨ad369, e369, hx369_0⟩ := Kd.at_string (Kd.R_reads' HO_6.out).2.2 x10_3 p369 q369
                        cases e369
                        replace p369 := eq_true p369
                        replace q369 := eq_true q369
                        go_wp2
                        go_roundg k3
                        case measure => have := HJ3.out; have := HK2.out; have := HK3.out; omega
                        case rel => exact ⟨(x9_3), (wrap64 (x10_3 + 1)), (by first | rfl | (simp; done) | (simp [*]; done)), (by first | rfl | (simp; done) | (simp [*]; done)), H', ⟨by have := HJ3.out; have := HK2.out; have := HK3.out; omega⟩, ⟨by (with_reducible repeat (first | apply Kd.R_alloc | apply Kd.R_drewN | apply Kd.R_drew)); exact HO_6.out⟩, ⟨by repeat (first | (with_reducible first | exact HB.out | apply below_alloc | apply pw_below_drewN | apply below_drew1) | exact HB.out)⟩⟩
                    · rw [if_neg c20] at H
                      exact absurd H (by simp)
                  · rw [if_neg c19] at H
                    have c19b0 : decide (x10_3 < (t364.length : Int)) = false := decide_eq_false c19
                    clear c19
                    by_cases c24 : t361 = true
                    · subst c24
                      have H1 : (if ((x9_3 == 1) == x7_2) = true then (if x9_3 ≤ 1 then (some (decide ((t364.length : Int) ≤ (l0.length : Int)))) else (some false)) else (some false)) = some r := by rw [if_pos rfl] at H; exact H
                      clear H
                      have H := H1
                      clear H1
                      by_cases c25 : ((x9_3 == 1) == x7_2) = true
                      · rw [if_pos c25] at H
                        have c25b0 : ((x9_3 == 1) == x7_2) = true := c25
                        (try (have c25b1 : decide ((x9_3 == 1) = x7_2) = true := by simpa using c25))
                        (try (have c25b2 : ((x9_3 == 1) == x7_2) = true := by simpa using c25))
                        clear c25
                        by_cases c26 : x9_3 ≤ 1
                        · rw [if_pos c26] at H
                          have c26b0 : decide (x9_3 ≤ 1) = true := decide_eq_true c26
                          clear c26
                          obtain rfl := Option.some.inj H
                          obtain ⟨Ao27, co27, eo27⟩ := Kd.R_slice HO_6.out
                          subst eo27
                          go_wp2
                          go_ret
                          exact ⟨by first | rfl | (simp [errW_none, errW_some] <;> rfl) | (simp [*, errW_none, errW_some] <;> rfl), by repeat (first | (with_reducible first | exact HB.out | apply below_alloc | apply pw_below_drewN | apply below_drew1) | exact HB.out)⟩
                        · rw [if_neg c26] at H
                          have c26b0 : decide (x9_3 ≤ 1) = false := decide_eq_false c26
                          clear c26
                          obtain rfl := Option.some.inj H
                          obtain ⟨Ao28, co28, eo28⟩ := Kd.R_slice HO_6.out
                          subst eo28
                          go_wp2
                          go_ret
                          exact ⟨by first | rfl | (simp [errW_none, errW_some] <;> rfl) | (simp [*, errW_none, errW_some] <;> rfl), by repeat (first | (with_reducible first | exact HB.out | apply below_alloc | apply pw_below_drewN | apply below_drew1) | exact HB.out)⟩
                      · rw [if_neg c25] at H
                        have c25b0 : ((x9_3 == 1) == x7_2) = false := by simpa using c25
                        (try (have c25b1 : decide ((x9_3 == 1) = x7_2) = false := by simpa using c25))
                        (try (have c25b2 : ((x9_3 == 1) == x7_2) = false := by simpa using c25))
                        (try (have c25b3 : ¬ ((x9_3 == 1) = x7_2) := by simpa using c25))
                        clear c25
                        obtain rfl := Option.some.inj H
                        obtain ⟨Ao29, co29, eo29⟩ := Kd.R_slice HO_6.out
                        subst eo29
                        go_wp2
                        go_ret
                        exact ⟨by first | rfl | (simp [errW_none, errW_some] <;> rfl) | (simp [*, errW_none, errW_some] <;> rfl), by repeat (first | (with_reducible first | exact HB.out | apply below_alloc | apply pw_below_drewN | apply below_drew1) | exact HB.out)⟩
                    · replace c24 := Bool.eq_false_iff.mpr c24
                      subst c24
                      have H1 : (some false) = some r := by rw [if_neg (show ¬ (false = true) by decide)] at H; exact H
                      clear H
                      have H := H1
                      clear H1
                      obtain rfl := Option.some.inj H
                      obtain ⟨Ao30, co30, eo30⟩ := Kd.R_slice HO_6.out
                      subst eo30
                      go_wp2
                      go_ret
                      exact ⟨by first | rfl | (simp [errW_none, errW_some] <;> rfl) | (simp [*, errW_none, errW_some] <;> rfl), by repeat (first | (with_reducible first | exact HB.out | apply below_alloc | apply pw_below_drewN | apply below_drew1) | exact HB.out)⟩

end Go.Proofs.Ytgbickkmfjngbaa.K
