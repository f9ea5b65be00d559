-- Laid by a program of this session (wip/gprint.py) over the kit's print of the translation; Lean checks it.
import Derived.Test.YtgbickkmfjngbaaKx0
import Derived.Test.YtgbickkmfjngbaaKx5
import Derived.Test.YtgbickkmfjngbaaKx6
import Derived.Test.YtgbickkmfjngbaaKx10
import Derived.Test.YtgbickkmfjngbaaKx11
import Derived.Test.YtgbickkmfjngbaaKx14
namespace Go.Proofs.Ytgbickkmfjngbaa.K
open Go.RowKit Go.Proofs.YtgbickkmfjngbaaW.PrintWords Go.Proofs.YtgbickkmfjngbaaW.PrintLast Go.Proofs.YtgbickkmfjngbaaG.Words
set_option linter.unusedVariables false
set_option linter.unusedSimpArgs false

/-! ### tammylaw08_SideUnknown: function 9 -/
mutual
def tammylaw08_SideUnknown.j0 : Nat → List (S38) → Int → Bool → Bool → Option (Bool)
  | 0, _, _, _, _ => none
  | k + 1, x0, x1, x5, x17 => if x17 = true then (some x5) else ((side_Check.f k ([] : List (S52)) x0 x1).bind fun bt417 => (tammylaw08_SideUnknown.l0 k x0 x5 bt417.1 bt417.2 0))
def tammylaw08_SideUnknown.l0 : Nat → List (S38) → Bool → Int → Int → Int → Option (Bool)
  | 0, _, _, _, _, _ => none
  | k + 1, x0, x5, x6, x7, x8 => if x8 < (x0.length : Int) then (if x8 < x6 then (tammylaw08_SideUnknown.j2 k x0 x5 x6 x7 x8 true) else (tammylaw08_SideUnknown.j2 k x0 x5 x6 x7 x8 (x7 == 0))) else (tammylaw08_SideUnknown.j2 k x0 x5 x6 x7 x8 false)
def tammylaw08_SideUnknown.j2 : Nat → List (S38) → Bool → Int → Int → Int → Bool → Option (Bool)
  | 0, _, _, _, _, _, _ => none
  | k + 1, x0, x5, x6, x7, x8, x37 => if x37 = true then (if 0 ≤ x8 then (if x8 < (x0.length : Int) then (if ((rd_T38 x0 x8).f0) = 3 then (some false) else (if ((rd_T38 x0 x8).f0) = 6 then (some false) else (tammylaw08_SideUnknown.l0 k x0 x5 x6 x7 (wrap64 (x8 + 1))))) else (none)) else (none)) else (if x5 = true then (if x7 = 0 then ((tammyref01_Right.f k ([] : List (S52))).bind fun t421 => (if t421 = true then ((side_Vars.f k x0).bind fun t422 => ((tammyref08_Vars.f k x0).bind fun t425 => (some ((t422.length : Int) == (t425.length : Int))))) else (some false))) else (if x7 = 3 then (if 0 ≤ x6 then (if x6 < (x0.length : Int) then (if ((rd_T38 x0 x6).f0) = 3 then ((tammyref01_Right.f k ([] : List (S52))).bind fun t429 => (if t429 = true then ((side_Vars.f k x0).bind fun t430 => ((tammyref08_Vars.f k x0).bind fun t433 => (some ((t430.length : Int) == (t433.length : Int))))) else (some false))) else (if ((rd_T38 x0 x6).f0) = 6 then ((tammyref01_Right.f k ([] : List (S52))).bind fun t437 => (if t437 = true then ((side_Vars.f k x0).bind fun t438 => ((tammyref08_Vars.f k x0).bind fun t441 => (some ((t438.length : Int) == (t441.length : Int))))) else (some false))) else (if x7 = 6 then (if ((rd_T38 x0 x6).f0) = 2 then (some false) else ((tammyref01_Right.f k ([] : List (S52))).bind fun t445 => (if t445 = true then ((side_Vars.f k x0).bind fun t446 => ((tammyref08_Vars.f k x0).bind fun t449 => (some ((t446.length : Int) == (t449.length : Int))))) else (some false)))) else (some false)))) else (none)) else (none)) else (if x7 = 6 then (if 0 ≤ x6 then (if x6 < (x0.length : Int) then (if ((rd_T38 x0 x6).f0) = 2 then (some false) else ((tammyref01_Right.f k ([] : List (S52))).bind fun t453 => (if t453 = true then ((side_Vars.f k x0).bind fun t454 => ((tammyref08_Vars.f k x0).bind fun t457 => (some ((t454.length : Int) == (t457.length : Int))))) else (some false)))) else (none)) else (none)) else (some false)))) else (some false))
end
def tammylaw08_SideUnknown.f (k : Nat) (l0 : List (S38)) (a1 : Int) : Option (Bool) := (tammylaw08_shown.f k).bind fun t414 => ((tammyref07_Few.f k l0).bind fun t415 => (if t415 = true then ((tammyref07_Right.f k l0).bind fun t416 => (tammylaw08_SideUnknown.j0 k l0 a1 t414 (!t416))) else (tammylaw08_SideUnknown.j0 k l0 a1 t414 true)))
theorem tammylaw08_SideUnknown.mono_l : ∀ k, (∀ y0 y1 y2 y3, LeO (tammylaw08_SideUnknown.j0 k y0 y1 y2 y3) (tammylaw08_SideUnknown.j0 (k + 1) y0 y1 y2 y3)) ∧ (∀ y0 y1 y2 y3 y4, LeO (tammylaw08_SideUnknown.l0 k y0 y1 y2 y3 y4) (tammylaw08_SideUnknown.l0 (k + 1) y0 y1 y2 y3 y4)) ∧ (∀ y0 y1 y2 y3 y4 y5, LeO (tammylaw08_SideUnknown.j2 k y0 y1 y2 y3 y4 y5) (tammylaw08_SideUnknown.j2 (k + 1) y0 y1 y2 y3 y4 y5))
  | 0 => ⟨fun _ _ _ _ r h => by simp [tammylaw08_SideUnknown.j0] at h, fun _ _ _ _ _ r h => by simp [tammylaw08_SideUnknown.l0] at h, fun _ _ _ _ _ _ r h => by simp [tammylaw08_SideUnknown.j2] at h⟩
  | k + 1 => by
    obtain ⟨ih0, ih1, ih2⟩ := tammylaw08_SideUnknown.mono_l k
    refine ⟨?_, ?_, ?_⟩
    · intro y0 y1 y2 y3
      unfold tammylaw08_SideUnknown.j0
      repeat' first
      | (with_reducible exact ih0 _ _ _ _)
      | (with_reducible exact ih1 _ _ _ _ _)
      | (with_reducible exact ih2 _ _ _ _ _ _)
      | (with_reducible exact side_Check.mono _ _ _ _)
      | (with_reducible exact side_Vars.mono _ _)
      | (with_reducible exact tammylaw08_shown.mono _)
      | (with_reducible exact tammyref01_Right.mono _ _)
      | (with_reducible exact tammyref07_Few.mono _ _)
      | (with_reducible exact tammyref07_Right.mono _ _)
      | (with_reducible exact tammyref08_Vars.mono _ _)
      | (with_reducible exact LeO.refl _)
      | (with_reducible exact LeO.none _)
      | (with_reducible refine LeO.ite ?_ ?_)
      | (with_reducible refine LeO.bind ?_ (fun _ => ?_))
      | exact ih0 _ _ _ _
      | exact ih1 _ _ _ _ _
      | exact ih2 _ _ _ _ _ _
      | exact side_Check.mono _ _ _ _
      | exact side_Vars.mono _ _
      | exact tammylaw08_shown.mono _
      | exact tammyref01_Right.mono _ _
      | exact tammyref07_Few.mono _ _
      | exact tammyref07_Right.mono _ _
      | exact tammyref08_Vars.mono _ _
      | exact LeO.none _
      | refine LeO.ite ?_ ?_
      | refine LeO.bind ?_ (fun _ => ?_)
    · intro y0 y1 y2 y3 y4
      unfold tammylaw08_SideUnknown.l0
      repeat' first
      | (with_reducible exact ih0 _ _ _ _)
      | (with_reducible exact ih1 _ _ _ _ _)
      | (with_reducible exact ih2 _ _ _ _ _ _)
      | (with_reducible exact side_Check.mono _ _ _ _)
      | (with_reducible exact side_Vars.mono _ _)
      | (with_reducible exact tammylaw08_shown.mono _)
      | (with_reducible exact tammyref01_Right.mono _ _)
      | (with_reducible exact tammyref07_Few.mono _ _)
      | (with_reducible exact tammyref07_Right.mono _ _)
      | (with_reducible exact tammyref08_Vars.mono _ _)
      | (with_reducible exact LeO.refl _)
      | (with_reducible exact LeO.none _)
      | (with_reducible refine LeO.ite ?_ ?_)
      | (with_reducible refine LeO.bind ?_ (fun _ => ?_))
      | exact ih0 _ _ _ _
      | exact ih1 _ _ _ _ _
      | exact ih2 _ _ _ _ _ _
      | exact side_Check.mono _ _ _ _
      | exact side_Vars.mono _ _
      | exact tammylaw08_shown.mono _
      | exact tammyref01_Right.mono _ _
      | exact tammyref07_Few.mono _ _
      | exact tammyref07_Right.mono _ _
      | exact tammyref08_Vars.mono _ _
      | exact LeO.none _
      | refine LeO.ite ?_ ?_
      | refine LeO.bind ?_ (fun _ => ?_)
    · intro y0 y1 y2 y3 y4 y5
      unfold tammylaw08_SideUnknown.j2
      repeat' first
      | (with_reducible exact ih0 _ _ _ _)
      | (with_reducible exact ih1 _ _ _ _ _)
      | (with_reducible exact ih2 _ _ _ _ _ _)
      | (with_reducible exact side_Check.mono _ _ _ _)
      | (with_reducible exact side_Vars.mono _ _)
      | (with_reducible exact tammylaw08_shown.mono _)
      | (with_reducible exact tammyref01_Right.mono _ _)
      | (with_reducible exact tammyref07_Few.mono _ _)
      | (with_reducible exact tammyref07_Right.mono _ _)
      | (with_reducible exact tammyref08_Vars.mono _ _)
      | (with_reducible exact LeO.refl _)
      | (with_reducible exact LeO.none _)
      | (with_reducible refine LeO.ite ?_ ?_)
      | (with_reducible refine LeO.bind ?_ (fun _ => ?_))
      | exact ih0 _ _ _ _
      | exact ih1 _ _ _ _ _
      | exact ih2 _ _ _ _ _ _
      | exact side_Check.mono _ _ _ _
      | exact side_Vars.mono _ _
      | exact tammylaw08_shown.mono _
      | exact tammyref01_Right.mono _ _
      | exact tammyref07_Few.mono _ _
      | exact tammyref07_Right.mono _ _
      | exact tammyref08_Vars.mono _ _
      | exact LeO.none _
      | refine LeO.ite ?_ ?_
      | refine LeO.bind ?_ (fun _ => ?_)
theorem tammylaw08_SideUnknown.mono : ∀ a0 a1 k, LeO (tammylaw08_SideUnknown.f k a0 a1) (tammylaw08_SideUnknown.f (k + 1) a0 a1) := by
  intro a0 a1 k
  obtain ⟨ih0, ih1, ih2⟩ := tammylaw08_SideUnknown.mono_l k
  unfold tammylaw08_SideUnknown.f
  repeat' first
      | (with_reducible exact ih0 _ _ _ _)
      | (with_reducible exact ih1 _ _ _ _ _)
      | (with_reducible exact ih2 _ _ _ _ _ _)
      | (with_reducible exact side_Check.mono _ _ _ _)
      | (with_reducible exact side_Vars.mono _ _)
      | (with_reducible exact tammylaw08_shown.mono _)
      | (with_reducible exact tammyref01_Right.mono _ _)
      | (with_reducible exact tammyref07_Few.mono _ _)
      | (with_reducible exact tammyref07_Right.mono _ _)
      | (with_reducible exact tammyref08_Vars.mono _ _)
      | (with_reducible exact LeO.refl _)
      | (with_reducible exact LeO.none _)
      | (with_reducible refine LeO.ite ?_ ?_)
      | (with_reducible refine LeO.bind ?_ (fun _ => ?_))
      | exact ih0 _ _ _ _
      | exact ih1 _ _ _ _ _
      | exact ih2 _ _ _ _ _ _
      | exact side_Check.mono _ _ _ _
      | exact side_Vars.mono _ _
      | exact tammylaw08_shown.mono _
      | exact tammyref01_Right.mono _ _
      | exact tammyref07_Few.mono _ _
      | exact tammyref07_Right.mono _ _
      | exact tammyref08_Vars.mono _ _
      | exact LeO.none _
      | refine LeO.ite ?_ ?_
      | refine LeO.bind ?_ (fun _ => ?_)
set_option maxHeartbeats 8000000 in
set_option maxRecDepth 100000 in
theorem tammylaw08_SideUnknown.calls (k : Nat) (A0 : Option Addr) (c0 : Nat) (l0 : List (S38)) (a1 : Int) (r : Bool) (w : World) (hr0 : Kd.C k38 w A0 l0.length l0) (hc0 : l0.length ≤ c0) (h : tammylaw08_SideUnknown.f k l0 a1 = some r) :
    Calls Try.prog 9 #[.slice A0 l0.length c0, .int .u8 a1] w fun e w' => e = .returned (.bool r) ∧ Below w.heap.size w w' := by
  have HR0 := Aside0.mk hr0
  have HC0 := Aside0.mk hc0
  clear hr0 hc0
  have HB := Aside0.mk (Below.refl w.heap.size w)
  have H : ((tammylaw08_shown.f k).bind fun t414 => ((tammyref07_Few.f k l0).bind fun t415 => (if t415 = true then ((tammyref07_Right.f k l0).bind fun t416 => (tammylaw08_SideUnknown.j0 k l0 a1 t414 (!t416))) else (tammylaw08_SideUnknown.j0 k l0 a1 t414 true)))) = some r := h
  clear h
  replace H := Option.bind_eq_some_iff.mp H
  obtain ⟨t414, A30, H⟩ := H
  replace H : ((tammyref07_Few.f k l0).bind fun t415 => (if t415 = true then ((tammyref07_Right.f k l0).bind fun t416 => (tammylaw08_SideUnknown.j0 k l0 a1 t414 (!t416))) else (tammylaw08_SideUnknown.j0 k l0 a1 t414 true))) = some r := H
  have A3 := Aside0.mk A30
  clear A30
  have HC4 := Aside0.mk H
  clear H
  go_enter Try.func9, Try.ntmps9
  go_upto_region 2 with (first | ((with_reducible refine gate_callee (f := 10) rfl ?_); refine goesL_ (some 9) rfl rfl Try.func10 (by kernel_rfl) rfl #[] rfl (by (try simp only [List.map_toArray, List.map_cons, List.map_nil]); first | done | rfl | (simp only [List.length_drop, List.length_take]; rfl)) ?_; (with_reducible refine (tammylaw08_shown.calls k  t414 _ A3.out).mono ?_); rintro e w5 ⟨rfl, hb⟩; refine ⟨_, rfl, ?_⟩; have n0_ := Aside0.mk (below_step (by repeat (first | (with_reducible first | exact HB.out | apply below_alloc | apply pw_below_drewN | apply below_drew1) | exact HB.out)) hb); clear HB; have HB := n0_; clear n0_; (try clear hb); (try clear hb2); (try clear hk); (try clear hi)))
  (try simp only [Act.put, List.setIfInBounds_toArray, List.set_cons_zero, List.set_cons_succ])
  go_cut [17] (fun v17 wc => ∃ (kq : Nat) (x17_3 : Bool), v17 = .bool x17_3 ∧ Aside0 (tammylaw08_SideUnknown.j0 kq l0 a1 t414 x17_3 = some r) ∧ Aside0 (kq ≤ k) ∧ Aside0 (Below w.heap.size w wc))
  case first =>
    have H := HC4.out
    clear HC4
    replace H := Option.bind_eq_some_iff.mp H
    obtain ⟨t415, A60, H⟩ := H
    replace H : (if t415 = true then ((tammyref07_Right.f k l0).bind fun t416 => (tammylaw08_SideUnknown.j0 k l0 a1 t414 (!t416))) else (tammylaw08_SideUnknown.j0 k l0 a1 t414 true)) = some r := H
    have A6 := Aside0.mk A60
    clear A60
    by_cases c7 : t415 = true
    · subst c7
      have H1 : ((tammyref07_Right.f k l0).bind fun t416 => (tammylaw08_SideUnknown.j0 k l0 a1 t414 (!t416))) = some r := by rw [if_pos rfl] at H; exact H
      clear H
      have H := H1
      clear H1
      replace H := Option.bind_eq_some_iff.mp H
      obtain ⟨t416, A80, H⟩ := H
      replace H : (tammylaw08_SideUnknown.j0 k l0 a1 t414 (!t416)) = some r := H
      have A8 := Aside0.mk A80
      clear A80
      have H' := Aside0.mk H
      clear H
      go_wp2_with (first | ((with_reducible refine gate_callee (f := 20) rfl ?_); refine goesL_ (some 11) rfl rfl Try.func20 (by kernel_rfl) rfl #[.slice A0 l0.length c0] rfl (by (try simp only [List.map_toArray, List.map_cons, List.map_nil]); first | done | rfl | (simp only [List.length_drop, List.length_take]; rfl)) ?_; (with_reducible refine (tammyref07_Few.calls k _ _ l0 true _ ?side1 ?side2 A6.out).mono ?_); (case side1 => repeat (first | exact (Kd.C_below HR0.out HB.out) | (with_reducible refine Kd.C_alloc ?_ _) | (with_reducible refine Kd.C_drewN ?_ _) | (with_reducible refine Kd.C_drew ?_))); (case side2 => exact HC0.out); rintro e w' ⟨rfl, ⟨nd, rfl⟩⟩; refine ⟨_, rfl, ?_⟩) | (go_at_call 21; (with_reducible refine (tammyref07_Right.calls k _ _ l0 t416 _ ?side1 ?side2 A8.out).mono ?_); (case side1 => repeat (first | exact (Kd.C_below HR0.out (by repeat (first | (with_reducible first | exact HB.out | apply below_alloc | apply pw_below_drewN | apply below_drew1) | exact HB.out))) | (with_reducible refine Kd.C_alloc ?_ _) | (with_reducible refine Kd.C_drewN ?_ _) | (with_reducible refine Kd.C_drew ?_))); (case side2 => exact HC0.out); rintro e w9 ⟨rfl, hb⟩; have n0_ := Aside0.mk (below_step (by repeat (first | (with_reducible first | exact HB.out | apply below_alloc | apply pw_below_drewN | apply below_drew1) | exact HB.out)) hb); clear HB; have HB := n0_; clear n0_; (try clear hb); (try clear hb2); (try clear hk); (try clear hi)))
      go_meet
      case rel => exact ⟨_, (!t416), (by first | rfl | (simp; done) | (simp [*]; done)), H', ⟨by first | omega | exact Nat.le_refl _⟩, ⟨by repeat (first | (with_reducible first | exact HB.out | apply below_alloc | apply pw_below_drewN | apply below_drew1) | exact HB.out)⟩⟩
    · replace c7 := Bool.eq_false_iff.mpr c7
      subst c7
      have H1 : (tammylaw08_SideUnknown.j0 k l0 a1 t414 true) = some r := by rw [if_neg (show ¬ (false = true) by decide)] at H; exact H
      clear H
      have H := H1
      clear H1
      have H' := Aside0.mk H
      clear H
      go_wp2_with (first | ((with_reducible refine gate_callee (f := 20) rfl ?_); refine goesL_ (some 11) rfl rfl Try.func20 (by kernel_rfl) rfl #[.slice A0 l0.length c0] rfl (by (try simp only [List.map_toArray, List.map_cons, List.map_nil]); first | done | rfl | (simp only [List.length_drop, List.length_take]; rfl)) ?_; (with_reducible refine (tammyref07_Few.calls k _ _ l0 false _ ?side1 ?side2 A6.out).mono ?_); (case side1 => repeat (first | exact (Kd.C_below HR0.out HB.out) | (with_reducible refine Kd.C_alloc ?_ _) | (with_reducible refine Kd.C_drewN ?_ _) | (with_reducible refine Kd.C_drew ?_))); (case side2 => exact HC0.out); rintro e w' ⟨rfl, ⟨nd, rfl⟩⟩; refine ⟨_, rfl, ?_⟩))
      go_meet
      case rel => exact ⟨_, (true), (by first | rfl | (simp; done) | (simp [*]; done)), H', ⟨by first | omega | exact Nat.le_refl _⟩, ⟨by repeat (first | (with_reducible first | exact HB.out | apply below_alloc | apply pw_below_drewN | apply below_drew1) | exact HB.out)⟩⟩
  case rest =>
    clear HC4
    try clear c1
    try clear c2
    try clear p2
    try clear c7
    try clear c9
    obtain ⟨kq, x17_3, rfl, HA, HJ3, HB⟩ := hcut
    cases kq with
    | zero => exact absurd HA.out (by simp [tammylaw08_SideUnknown.j0])
    | succ kj3 =>
      have H := HA.out
      clear HA
      simp only [tammylaw08_SideUnknown.j0] at H
      by_cases c10 : x17_3 = true
      · subst c10
        have H1 : (some t414) = some r := by rw [if_pos rfl] at H; exact H
        clear H
        have H := H1
        clear H1
        obtain rfl := Option.some.inj H
        go_wp2
        go_ret
        exact ⟨by first | rfl | (simp [errW_none, errW_some] <;> rfl) | (simp [*, errW_none, errW_some] <;> rfl), by repeat (first | (with_reducible first | exact HB.out | apply below_alloc | apply pw_below_drewN | apply below_drew1) | exact HB.out)⟩
      · replace c10 := Bool.eq_false_iff.mpr c10
        subst c10
        have H1 : ((side_Check.f kj3 ([] : List (S52)) l0 a1).bind fun bt417 => (tammylaw08_SideUnknown.l0 kj3 l0 t414 bt417.1 bt417.2 0)) = some r := by rw [if_neg (show ¬ (false = true) by decide)] at H; exact H
        clear H
        have H := H1
        clear H1
        replace H := Option.bind_eq_some_iff.mp H
        obtain ⟨⟨t417, t418⟩, A110, H⟩ := H
        replace H : (tammylaw08_SideUnknown.l0 kj3 l0 t414 t417 t418 0) = some r := H
        have A11 := Aside0.mk A110
        clear A110
        have H' := Aside0.mk H
        clear H
        go_wp2_with (first | ((with_reducible refine gate_callee (f := 12) rfl ?_); refine goesL_ (some 22) rfl rfl Try.func12 (by kernel_rfl) rfl #[.slice none 0 0, .slice A0 l0.length c0, .int .u8 a1] rfl (by (try simp only [List.map_toArray, List.map_cons, List.map_nil]); first | done | rfl | (simp only [List.length_drop, List.length_take]; rfl)) ?_; (refine (side_Check.calls kj3 _ _ ([] : List (S52)) _ _ l0 a1 t417 t418 _ ?side1 ?side2 ?side3 ?side4 A11.out).mono ?_); (case side1 => exact Kd.C_nil _ _); (case side2 => exact Nat.le_refl _); (case side3 => repeat (first | exact (Kd.C_below HR0.out HB.out) | (with_reducible refine Kd.C_alloc ?_ _) | (with_reducible refine Kd.C_drewN ?_ _) | (with_reducible refine Kd.C_drew ?_))); (case side4 => exact HC0.out); rintro e w12 ⟨rfl, hb⟩; refine ⟨_, rfl, ?_⟩; have n0_ := Aside0.mk (below_step (by repeat (first | (with_reducible first | exact HB.out | apply below_alloc | apply pw_below_drewN | apply below_drew1) | exact HB.out)) hb); clear HB; have HB := n0_; clear n0_; (try clear hb); (try clear hb2); (try clear hk); (try clear hi)))
        go_loopg [8] kj3 (fun kq v8 w' => ∃ (x8_2 : Int), v8 = .int .i64 x8_2 ∧ Aside0 (tammylaw08_SideUnknown.l0 kq l0 t414 t417 t418 x8_2 = some r) ∧ Aside0 (kq ≤ kj3) ∧ Aside0 (Below w.heap.size w w'))
        case atStart => exact ⟨(0), (by first | rfl | (simp; done) | (simp [*]; done)), H', ⟨Nat.le_refl _⟩, ⟨by repeat (first | (with_reducible first | exact HB.out | apply below_alloc | apply pw_below_drewN | apply below_drew1) | exact HB.out)⟩⟩
        case round =>
          clear H'
          try clear c1
          try clear c2
          try clear p2
          try clear c7
          try clear c9
          try clear c10
          try clear c12
          try clear p2
          obtain ⟨x8_2, rfl, HA, HK2, HB⟩ := hrel
          cases gk with
          | zero => exact absurd HA.out (by simp [tammylaw08_SideUnknown.l0])
          | succ k2 =>
            have H := HA.out
            clear HA
            simp only [tammylaw08_SideUnknown.l0] at H
            have HC13 := Aside0.mk H
            clear H
            go_upto_region 6 with (fail)
            go_cut [37] (fun v37 wc => ∃ (kq : Nat) (x37_12 : Bool), v37 = .bool x37_12 ∧ Aside0 (tammylaw08_SideUnknown.j2 kq l0 t414 t417 t418 x8_2 x37_12 = some r) ∧ Aside0 (kq ≤ k2) ∧ Aside0 (Below w.heap.size w wc))
            case first =>
              have H := HC13.out
              clear HC13
              by_cases c14 : x8_2 < (l0.length : Int)
              · rw [if_pos c14] at H
                have c14b0 : decide (x8_2 < (l0.length : Int)) = true := decide_eq_true c14
                clear c14
                (first | rw [c14b0] | (simp only [i64_w, i32_w]; rw [c14b0]) | skip)
                by_cases c15 : x8_2 < t417
                · rw [if_pos c15] at H
                  have c15b0 : decide (x8_2 < t417) = true := decide_eq_true c15
                  clear c15
                  have H' := Aside0.mk H
                  clear H
                  go_wp2
                  go_meet
                  case rel => exact ⟨_, (true), (by first | rfl | (simp; done) | (simp [*]; done)), H', ⟨by have := HJ3.out; have := HK2.out; first | omega | exact Nat.le_refl _⟩, ⟨by repeat (first | (with_reducible first | exact HB.out | apply below_alloc | apply pw_below_drewN | apply below_drew1) | exact HB.out)⟩⟩
                · rw [if_neg c15] at H
                  have c15b0 : decide (x8_2 < t417) = false := decide_eq_false c15
                  clear c15
                  have H' := Aside0.mk H
                  clear H
                  go_wp2
                  go_meet
                  case rel => exact ⟨_, ((t418 == 0)), (by first | rfl | (simp; done) | (simp [*]; done)), H', ⟨by have := HJ3.out; have := HK2.out; first | omega | exact Nat.le_refl _⟩, ⟨by repeat (first | (with_reducible first | exact HB.out | apply below_alloc | apply pw_below_drewN | apply below_drew1) | exact HB.out)⟩⟩
              · rw [if_neg c14] at H
                have c14b0 : decide (x8_2 < (l0.length : Int)) = false := decide_eq_false c14
                clear c14
                (first | rw [c14b0] | (simp only [i64_w, i32_w]; rw [c14b0]) | skip)
                have H' := Aside0.mk H
                clear H
                go_wp2
                go_meet
                case rel => exact ⟨_, (false), (by first | rfl | (simp; done) | (simp [*]; done)), H', ⟨by have := HJ3.out; have := HK2.out; first | omega | exact Nat.le_refl _⟩, ⟨by repeat (first | (with_reducible first | exact HB.out | apply below_alloc | apply pw_below_drewN | apply below_drew1) | exact HB.out)⟩⟩
            case rest =>
              clear HC13
              try clear c1
              try clear c2
              try clear p2
              try clear c7
              try clear c9
              try clear c10
              try clear c12
              try clear c14
              try clear c14b0
              try clear c15
              try clear c15b0
              try clear p2
              obtain ⟨kq, x37_12, rfl, HA, HJ12, HB⟩ := hcut
              cases kq with
              | zero => exact absurd HA.out (by simp [tammylaw08_SideUnknown.j2])
              | succ kj12 =>
                have H := HA.out
                clear HA
                simp only [tammylaw08_SideUnknown.j2] at H
                by_cases c16 : x37_12 = true
                · subst c16
                  have H1 : (if 0 ≤ x8_2 then (if x8_2 < (l0.length : Int) then (if ((rd_T38 l0 x8_2).f0) = 3 then (some false) else (if ((rd_T38 l0 x8_2).f0) = 6 then (some false) else (tammylaw08_SideUnknown.l0 kj12 l0 t414 t417 t418 (wrap64 (x8_2 + 1))))) else (none)) else (none)) = some r := by rw [if_pos rfl] at H; exact H
                  clear H
                  have H := H1
                  clear H1
                  by_cases c17 : 0 ≤ x8_2
                  · rw [if_pos c17] at H
                    have c17b0 : decide (0 ≤ x8_2) = true := decide_eq_true c17
                    clear c17
                    by_cases c18 : x8_2 < (l0.length : Int)
                    · rw [if_pos c18] at H
                      have c18b0 : decide (x8_2 < (l0.length : Int)) = true := decide_eq_true c18
                      clear c18
                      by_cases c19 : ((rd_T38 l0 x8_2).f0) = 3
                      · rw [if_pos c19] at H
                        have c19b0 : (((rd_T38 l0 x8_2).f0) == 3) = true := beq_iff_eq.mpr c19
                        have c19b1 : (((rd_T38 l0 x8_2).f0) != 3) = false := bne_eq_false_iff_eq.mpr c19
                        clear c19
                        obtain rfl := Option.some.inj H
                        have p419 : 0 ≤ (x8_2 : Int) := of_decide_eq_true (by first | (with_reducible assumption) | assumption)
                        have q419 : x8_2 < (l0.length : Int) := of_decide_eq_true (by first | (with_reducible assumption) | assumption)
                        obtain ⟨ad419, e419, hx419_0, hx419_1, hx419_2⟩ := at_T38 HR0.out x8_2 p419 q419
                        cases e419
                        replace hx419_0 := (HB.out.cell (World.block_lt_of_cell? w _ hx419_0)).trans hx419_0
                        replace hx419_1 := (HB.out.cell (World.block_lt_of_cell? w _ hx419_1)).trans hx419_1
                        replace hx419_2 := (HB.out.cell (World.block_lt_of_cell? w _ hx419_2)).trans hx419_2
                        replace p419 := eq_true p419
                        replace q419 := eq_true q419
                        go_wp2
                        go_ret
                        exact ⟨by first | rfl | (simp [errW_none, errW_some] <;> rfl) | (simp [*, errW_none, errW_some] <;> rfl), by repeat (first | (with_reducible first | exact HB.out | apply below_alloc | apply pw_below_drewN | apply below_drew1) | exact HB.out)⟩
                      · rw [if_neg c19] at H
                        have c19b0 : (((rd_T38 l0 x8_2).f0) == 3) = false := beq_eq_false_iff_ne.mpr c19
                        have c19b1 : (((rd_T38 l0 x8_2).f0) != 3) = true := bne_iff_ne.mpr c19
                        by_cases c20 : ((rd_T38 l0 x8_2).f0) = 6
                        · rw [if_pos c20] at H
                          have c20b0 : (((rd_T38 l0 x8_2).f0) == 6) = true := beq_iff_eq.mpr c20
                          have c20b1 : (((rd_T38 l0 x8_2).f0) != 6) = false := bne_eq_false_iff_eq.mpr c20
                          clear c20
                          obtain rfl := Option.some.inj H
                          have p419 : 0 ≤ (x8_2 : Int) := of_decide_eq_true (by first | (with_reducible assumption) | assumption)
                          have q419 : x8_2 < (l0.length : Int) := of_decide_eq_true (by first | (with_reducible assumption) | assumption)
                          obtain ⟨ad419, e419, hx419_0, hx419_1, hx419_2⟩ := at_T38 HR0.out x8_2 p419 q419
                          cases e419
                          replace hx419_0 := (HB.out.cell (World.block_lt_of_cell? w _ hx419_0)).trans hx419_0
                          replace hx419_1 := (HB.out.cell (World.block_lt_of_cell? w _ hx419_1)).trans hx419_1
                          replace hx419_2 := (HB.out.cell (World.block_lt_of_cell? w _ hx419_2)).trans hx419_2
                          replace p419 := eq_true p419
                          replace q419 := eq_true q419
                          have p420 : 0 ≤ (x8_2 : Int) := of_decide_eq_true (by first | (with_reducible assumption) | assumption)
                          have q420 : x8_2 < (l0.length : Int) := of_decide_eq_true (by first | (with_reducible assumption) | assumption)
                          obtain ⟨ad420, e420, hx420_0, hx420_1, hx420_2⟩ := at_T38 HR0.out x8_2 p420 q420
                          obtain rfl : ad419 = ad420 := (by injection e420)
                          replace hx420_0 := (HB.out.cell (World.block_lt_of_cell? w _ hx420_0)).trans hx420_0
                          replace hx420_1 := (HB.out.cell (World.block_lt_of_cell? w _ hx420_1)).trans hx420_1
                          replace hx420_2 := (HB.out.cell (World.block_lt_of_cell? w _ hx420_2)).trans hx420_2
                          replace p420 := eq_true p420
                          replace q420 := eq_true q420
                          go_wp2
                          go_ret
                          exact ⟨by first | rfl | (simp [errW_none, errW_some] <;> rfl) | (simp [*, errW_none, errW_some] <;> rfl), by repeat (first | (with_reducible first | exact HB.out | apply below_alloc | apply pw_below_drewN | apply below_drew1) | exact HB.out)⟩
                        · rw [if_neg c20] at H
                          have c20b0 : (((rd_T38 l0 x8_2).f0) == 6) = false := beq_eq_false_iff_ne.mpr c20
                          have c20b1 : (((rd_T38 l0 x8_2).f0) != 6) = true := bne_iff_ne.mpr c20
                          have H' := Aside0.mk H
                          clear H
                          have p419 : 0 ≤ (x8_2 : Int) := of_decide_eq_true (by first | (with_reducible assumption) | assumption)
                          have q419 : x8_2 < (l0.length : Int) := of_decide_eq_true (by first | (with_reducible assumption) | assumption)
                          obtain ⟨ad419, e419, hx419_0, hx419_1, hx419_2⟩ := at_T38 HR0.out x8_2 p419 q419
                          cases e419
                          replace hx419_0 := (HB.out.cell (World.block_lt_of_cell? w _ hx419_0)).trans hx419_0
                          replace hx419_1 := (HB.out.cell (World.block_lt_of_cell? w _ hx419_1)).trans hx419_1
                          replace hx419_2 := (HB.out.cell (World.block_lt_of_cell? w _ hx419_2)).trans hx419_2
                          replace p419 := eq_true p419
                          replace q419 := eq_true q419
                          have p420 : 0 ≤ (x8_2 : Int) := of_decide_eq_true (by first | (with_reducible assumption) | assumption)
                          have q420 : x8_2 < (l0.length : Int) := of_decide_eq_true (by first | (with_reducible assumption) | assumption)
                          obtain ⟨ad420, e420, hx420_0, hx420_1, hx420_2⟩ := at_T38 HR0.out x8_2 p420 q420
                          obtain rfl : ad419 = ad420 := (by injection e420)
                          replace hx420_0 := (HB.out.cell (World.block_lt_of_cell? w _ hx420_0)).trans hx420_0
                          replace hx420_1 := (HB.out.cell (World.block_lt_of_cell? w _ hx420_1)).trans hx420_1
                          replace hx420_2 := (HB.out.cell (World.block_lt_of_cell? w _ hx420_2)).trans hx420_2
                          replace p420 := eq_true p420
                          replace q420 := eq_true q420
                          go_wp2
                          go_roundg kj12
                          case measure => have := HJ3.out; have := HK2.out; have := HJ12.out; omega
                          case rel => exact ⟨(wrap64 (x8_2 + 1)), (by first | rfl | (simp; done) | (simp [*]; done)), H', ⟨by have := HJ3.out; have := HK2.out; have := HJ12.out; omega⟩, ⟨by repeat (first | (with_reducible first | exact HB.out | apply below_alloc | apply pw_below_drewN | apply below_drew1) | exact HB.out)⟩⟩
                    · rw [if_neg c18] at H
                      exact absurd H (by simp)
                  · rw [if_neg c17] at H
                    exact absurd H (by simp)
                · replace c16 := Bool.eq_false_iff.mpr c16
                  subst c16
                  have H1 : (if t414 = true then (if t418 = 0 then ((tammyref01_Right.f kj12 ([] : List (S52))).bind fun t421 => (if t421 = true then ((side_Vars.f kj12 l0).bind fun t422 => ((tammyref08_Vars.f kj12 l0).bind fun t425 => (some ((t422.length : Int) == (t425.length : Int))))) else (some false))) else (if t418 = 3 then (if 0 ≤ t417 then (if t417 < (l0.length : Int) then (if ((rd_T38 l0 t417).f0) = 3 then ((tammyref01_Right.f kj12 ([] : List (S52))).bind fun t429 => (if t429 = true then ((side_Vars.f kj12 l0).bind fun t430 => ((tammyref08_Vars.f kj12 l0).bind fun t433 => (some ((t430.length : Int) == (t433.length : Int))))) else (some false))) else (if ((rd_T38 l0 t417).f0) = 6 then ((tammyref01_Right.f kj12 ([] : List (S52))).bind fun t437 => (if t437 = true then ((side_Vars.f kj12 l0).bind fun t438 => ((tammyref08_Vars.f kj12 l0).bind fun t441 => (some ((t438.length : Int) == (t441.length : Int))))) else (some false))) else (if t418 = 6 then (if ((rd_T38 l0 t417).f0) = 2 then (some false) else ((tammyref01_Right.f kj12 ([] : List (S52))).bind fun t445 => (if t445 = true then ((side_Vars.f kj12 l0).bind fun t446 => ((tammyref08_Vars.f kj12 l0).bind fun t449 => (some ((t446.length : Int) == (t449.length : Int))))) else (some false)))) else (some false)))) else (none)) else (none)) else (if t418 = 6 then (if 0 ≤ t417 then (if t417 < (l0.length : Int) then (if ((rd_T38 l0 t417).f0) = 2 then (some false) else ((tammyref01_Right.f kj12 ([] : List (S52))).bind fun t453 => (if t453 = true then ((side_Vars.f kj12 l0).bind fun t454 => ((tammyref08_Vars.f kj12 l0).bind fun t457 => (some ((t454.length : Int) == (t457.length : Int))))) else (some false)))) else (none)) else (none)) else (some false)))) else (some false)) = some r := by rw [if_neg (show ¬ (false = true) by decide)] at H; exact H
                  clear H
                  have H := H1
                  clear H1
                  by_cases c21 : t414 = true
                  · subst c21
                    have H1 : (if t418 = 0 then ((tammyref01_Right.f kj12 ([] : List (S52))).bind fun t421 => (if t421 = true then ((side_Vars.f kj12 l0).bind fun t422 => ((tammyref08_Vars.f kj12 l0).bind fun t425 => (some ((t422.length : Int) == (t425.length : Int))))) else (some false))) else (if t418 = 3 then (if 0 ≤ t417 then (if t417 < (l0.length : Int) then (if ((rd_T38 l0 t417).f0) = 3 then ((tammyref01_Right.f kj12 ([] : List (S52))).bind fun t429 => (if t429 = true then ((side_Vars.f kj12 l0).bind fun t430 => ((tammyref08_Vars.f kj12 l0).bind fun t433 => (some ((t430.length : Int) == (t433.length : Int))))) else (some false))) else (if ((rd_T38 l0 t417).f0) = 6 then ((tammyref01_Right.f kj12 ([] : List (S52))).bind fun t437 => (if t437 = true then ((side_Vars.f kj12 l0).bind fun t438 => ((tammyref08_Vars.f kj12 l0).bind fun t441 => (some ((t438.length : Int) == (t441.length : Int))))) else (some false))) else (if t418 = 6 then (if ((rd_T38 l0 t417).f0) = 2 then (some false) else ((tammyref01_Right.f kj12 ([] : List (S52))).bind fun t445 => (if t445 = true then ((side_Vars.f kj12 l0).bind fun t446 => ((tammyref08_Vars.f kj12 l0).bind fun t449 => (some ((t446.length : Int) == (t449.length : Int))))) else (some false)))) else (some false)))) else (none)) else (none)) else (if t418 = 6 then (if 0 ≤ t417 then (if t417 < (l0.length : Int) then (if ((rd_T38 l0 t417).f0) = 2 then (some false) else ((tammyref01_Right.f kj12 ([] : List (S52))).bind fun t453 => (if t453 = true then ((side_Vars.f kj12 l0).bind fun t454 => ((tammyref08_Vars.f kj12 l0).bind fun t457 => (some ((t454.length : Int) == (t457.length : Int))))) else (some false)))) else (none)) else (none)) else (some false)))) = some r := by rw [if_pos rfl] at H; exact H
                    clear H
                    have H := H1
                    clear H1
                    by_cases c22 : t418 = 0
                    · rw [if_pos c22] at H
                      have c22b0 : (t418 == 0) = true := beq_iff_eq.mpr c22
                      have c22b1 : (t418 != 0) = false := bne_eq_false_iff_eq.mpr c22
                      clear c22
                      replace H := Option.bind_eq_some_iff.mp H
                      obtain ⟨t421, A230, H⟩ := H
                      replace H : (if t421 = true then ((side_Vars.f kj12 l0).bind fun t422 => ((tammyref08_Vars.f kj12 l0).bind fun t425 => (some ((t422.length : Int) == (t425.length : Int))))) else (some false)) = some r := H
                      have A23 := Aside0.mk A230
                      clear A230
                      by_cases c24 : t421 = true
                      · subst c24
                        have H1 : ((side_Vars.f kj12 l0).bind fun t422 => ((tammyref08_Vars.f kj12 l0).bind fun t425 => (some ((t422.length : Int) == (t425.length : Int))))) = some r := by rw [if_pos rfl] at H; exact H
                        clear H
                        have H := H1
                        clear H1
                        replace H := Option.bind_eq_some_iff.mp H
                        obtain ⟨t422, A250, H⟩ := H
                        replace H : ((tammyref08_Vars.f kj12 l0).bind fun t425 => (some ((t422.length : Int) == (t425.length : Int)))) = some r := H
                        have A25 := Aside0.mk A250
                        clear A250
                        replace H := Option.bind_eq_some_iff.mp H
                        obtain ⟨t425, A260, H⟩ := H
                        replace H : (some ((t422.length : Int) == (t425.length : Int))) = some r := H
                        have A26 := Aside0.mk A260
                        clear A260
                        obtain rfl := Option.some.inj H
                        go_wp2_with (first | (go_at_call 22; (refine (tammyref01_Right.calls kj12 _ _ ([] : List (S52)) true _ ?side1 ?side2 A23.out).mono ?_); (case side1 => exact Kd.C_nil _ _); (case side2 => exact Nat.le_refl _); rintro e w' ⟨rfl, ⟨nd, rfl⟩⟩) | (go_at_call 17; (with_reducible refine (side_Vars.calls kj12 _ _ l0 t422 _ ?side1 ?side2 A25.out).mono ?_); (case side1 => repeat (first | exact (Kd.C_below HR0.out (by repeat (first | (with_reducible first | exact HB.out | apply below_alloc | apply pw_below_drewN | apply below_drew1) | exact HB.out))) | (with_reducible refine Kd.C_alloc ?_ _) | (with_reducible refine Kd.C_drewN ?_ _) | (with_reducible refine Kd.C_drew ?_))); (case side2 => exact HC0.out); rintro e w27 ⟨v423, rfl, ho0, hb⟩; have n0_ := Aside0.mk (Kd.R_lower ho0 (below_size (by repeat (first | (with_reducible first | exact HB.out | apply below_alloc | apply pw_below_drewN | apply below_drew1) | exact HB.out)))); have n1_ := Aside0.mk (below_step (by repeat (first | (with_reducible first | exact HB.out | apply below_alloc | apply pw_below_drewN | apply below_drew1) | exact HB.out)) hb); clear HB; have HO424 := n0_; have HB := n1_; clear n0_ n1_; (try clear hb); (try clear hb2); (try clear hk); (try clear hi); (try clear ho0); obtain ⟨Ao28, co28, eo28⟩ := Kd.R_slice HO424.out; subst eo28) | (go_at_call 18; (with_reducible refine (tammyref08_Vars.calls kj12 _ _ l0 t425 _ ?side1 ?side2 A26.out).mono ?_); (case side1 => repeat (first | exact (Kd.C_below HR0.out HB.out) | (with_reducible refine Kd.C_alloc ?_ _) | (with_reducible refine Kd.C_drewN ?_ _) | (with_reducible refine Kd.C_drew ?_))); (case side2 => exact HC0.out); rintro e w29 ⟨v426, rfl, ho0, hb⟩; have n0_ := Aside0.mk (Kd.R_elder' (by (with_reducible repeat (first | apply Kd.R_alloc | apply Kd.R_drewN | apply Kd.R_drew)); exact HO424.out) (Kd.R_base ho0) hb); have n1_ := Aside0.mk (Kd.R_lower (Kd.R_new' ho0 (Kd.R_lt (by (with_reducible repeat (first | apply Kd.R_alloc | apply Kd.R_drewN | apply Kd.R_drew)); exact HO424.out))) (below_size (by repeat (first | (with_reducible first | exact HB.out | apply below_alloc | apply pw_below_drewN | apply below_drew1) | exact HB.out)))); have n2_ := Aside0.mk (below_step (by repeat (first | (with_reducible first | exact HB.out | apply below_alloc | apply pw_below_drewN | apply below_drew1) | exact HB.out)) hb); clear HO424; clear HB; have HO424 := n0_; have HO427 := n1_; have HB := n2_; clear n0_ n1_ n2_; (try clear hb); (try clear hb2); (try clear hk); (try clear hi); (try clear ho0); obtain ⟨Ao30, co30, eo30⟩ := Kd.R_slice HO427.out; subst eo30))
                        go_ret
                        exact ⟨by first | rfl | (simp [errW_none, errW_some] <;> rfl) | (simp [*, errW_none, errW_some] <;> rfl), by repeat (first | (with_reducible first | exact HB.out | apply below_alloc | apply pw_below_drewN | apply below_drew1) | exact HB.out)⟩
                      · replace c24 := Bool.eq_false_iff.mpr c24
                        subst c24
                        have H1 : (some false) = some r := by rw [if_neg (show ¬ (false = true) by decide)] at H; exact H
                        clear H
                        have H := H1
                        clear H1
                        obtain rfl := Option.some.inj H
                        go_wp2_with (first | (go_at_call 22; (refine (tammyref01_Right.calls kj12 _ _ ([] : List (S52)) false _ ?side1 ?side2 A23.out).mono ?_); (case side1 => exact Kd.C_nil _ _); (case side2 => exact Nat.le_refl _); rintro e w' ⟨rfl, ⟨nd, rfl⟩⟩))
                        go_ret
                        exact ⟨by first | rfl | (simp [errW_none, errW_some] <;> rfl) | (simp [*, errW_none, errW_some] <;> rfl), by repeat (first | (with_reducible first | exact HB.out | apply below_alloc | apply pw_below_drewN | apply below_drew1) | exact HB.out)⟩
                    · rw [if_neg c22] at H
                      have c22b0 : (t418 == 0) = false := beq_eq_false_iff_ne.mpr c22
                      have c22b1 : (t418 != 0) = true := bne_iff_ne.mpr c22
                      by_cases c31 : t418 = 3
                      · rw [if_pos c31] at H
                        have c31b0 : (t418 == 3) = true := beq_iff_eq.mpr c31
                        have c31b1 : (t418 != 3) = false := bne_eq_false_iff_eq.mpr c31
                        clear c31
                        by_cases c32 : 0 ≤ t417
                        · rw [if_pos c32] at H
                          have c32b0 : decide (0 ≤ t417) = true := decide_eq_true c32
                          clear c32
                          by_cases c33 : t417 < (l0.length : Int)
                          · rw [if_pos c33] at H
                            have c33b0 : decide (t417 < (l0.length : Int)) = true := decide_eq_true c33
                            clear c33
                            by_cases c34 : ((rd_T38 l0 t417).f0) = 3
                            · rw [if_pos c34] at H
                              have c34b0 : (((rd_T38 l0 t417).f0) == 3) = true := beq_iff_eq.mpr c34
                              have c34b1 : (((rd_T38 l0 t417).f0) != 3) = false := bne_eq_false_iff_eq.mpr c34
                              clear c34
                              replace H := Option.bind_eq_some_iff.mp H
                              obtain ⟨t429, A350, H⟩ := H
                              replace H : (if t429 = true then ((side_Vars.f kj12 l0).bind fun t430 => ((tammyref08_Vars.f kj12 l0).bind fun t433 => (some ((t430.length : Int) == (t433.length : Int))))) else (some false)) = some r := H
                              have A35 := Aside0.mk A350
                              clear A350
                              by_cases c36 : t429 = true
                              · subst c36
                                have H1 : ((side_Vars.f kj12 l0).bind fun t430 => ((tammyref08_Vars.f kj12 l0).bind fun t433 => (some ((t430.length : Int) == (t433.length : Int))))) = some r := by rw [if_pos rfl] at H; exact H
                                clear H
                                have H := H1
                                clear H1
                                replace H := Option.bind_eq_some_iff.mp H
                                obtain ⟨t430, A370, H⟩ := H
                                replace H : ((tammyref08_Vars.f kj12 l0).bind fun t433 => (some ((t430.length : Int) == (t433.length : Int)))) = some r := H
                                have A37 := Aside0.mk A370
                                clear A370
                                replace H := Option.bind_eq_some_iff.mp H
                                obtain ⟨t433, A380, H⟩ := H
                                replace H : (some ((t430.length : Int) == (t433.length : Int))) = some r := H
                                have A38 := Aside0.mk A380
                                clear A380
                                obtain rfl := Option.some.inj H
                                have p428 : 0 ≤ (t417 : Int) := of_decide_eq_true (by first | (with_reducible assumption) | assumption)
                                have q428 : t417 < (l0.length : Int) := of_decide_eq_true (by first | (with_reducible assumption) | assumption)
                                obtain ⟨ad428, e428, hx428_0, hx428_1, hx428_2⟩ := at_T38 HR0.out t417 p428 q428
                                cases e428
                                replace hx428_0 := (HB.out.cell (World.block_lt_of_cell? w _ hx428_0)).trans hx428_0
                                replace hx428_1 := (HB.out.cell (World.block_lt_of_cell? w _ hx428_1)).trans hx428_1
                                replace hx428_2 := (HB.out.cell (World.block_lt_of_cell? w _ hx428_2)).trans hx428_2
                                replace p428 := eq_true p428
                                replace q428 := eq_true q428
                                go_wp2_with (first | (go_at_call 22; (refine (tammyref01_Right.calls kj12 _ _ ([] : List (S52)) true _ ?side1 ?side2 A35.out).mono ?_); (case side1 => exact Kd.C_nil _ _); (case side2 => exact Nat.le_refl _); rintro e w' ⟨rfl, ⟨nd, rfl⟩⟩) | (go_at_call 17; (with_reducible refine (side_Vars.calls kj12 _ _ l0 t430 _ ?side1 ?side2 A37.out).mono ?_); (case side1 => repeat (first | exact (Kd.C_below HR0.out (by repeat (first | (with_reducible first | exact HB.out | apply below_alloc | apply pw_below_drewN | apply below_drew1) | exact HB.out))) | (with_reducible refine Kd.C_alloc ?_ _) | (with_reducible refine Kd.C_drewN ?_ _) | (with_reducible refine Kd.C_drew ?_))); (case side2 => exact HC0.out); rintro e w39 ⟨v431, rfl, ho0, hb⟩; have n0_ := Aside0.mk (Kd.R_lower ho0 (below_size (by repeat (first | (with_reducible first | exact HB.out | apply below_alloc | apply pw_below_drewN | apply below_drew1) | exact HB.out)))); have n1_ := Aside0.mk (below_step (by repeat (first | (with_reducible first | exact HB.out | apply below_alloc | apply pw_below_drewN | apply below_drew1) | exact HB.out)) hb); clear HB; have HO432 := n0_; have HB := n1_; clear n0_ n1_; (try clear hb); (try clear hb2); (try clear hk); (try clear hi); (try clear ho0); obtain ⟨Ao40, co40, eo40⟩ := Kd.R_slice HO432.out; subst eo40) | (go_at_call 18; (with_reducible refine (tammyref08_Vars.calls kj12 _ _ l0 t433 _ ?side1 ?side2 A38.out).mono ?_); (case side1 => repeat (first | exact (Kd.C_below HR0.out HB.out) | (with_reducible refine Kd.C_alloc ?_ _) | (with_reducible refine Kd.C_drewN ?_ _) | (with_reducible refine Kd.C_drew ?_))); (case side2 => exact HC0.out); rintro e w41 ⟨v434, rfl, ho0, hb⟩; have n0_ := Aside0.mk (Kd.R_elder' (by (with_reducible repeat (first | apply Kd.R_alloc | apply Kd.R_drewN | apply Kd.R_drew)); exact HO432.out) (Kd.R_base ho0) hb); have n1_ := Aside0.mk (Kd.R_lower (Kd.R_new' ho0 (Kd.R_lt (by (with_reducible repeat (first | apply Kd.R_alloc | apply Kd.R_drewN | apply Kd.R_drew)); exact HO432.out))) (below_size (by repeat (first | (with_reducible first | exact HB.out | apply below_alloc | apply pw_below_drewN | apply below_drew1) | exact HB.out)))); have n2_ := Aside0.mk (below_step (by repeat (first | (with_reducible first | exact HB.out | apply below_alloc | apply pw_below_drewN | apply below_drew1) | exact HB.out)) hb); clear HO432; clear HB; have HO432 := n0_; have HO435 := n1_; have HB := n2_; clear n0_ n1_ n2_; (try clear hb); (try clear hb2); (try clear hk); (try clear hi); (try clear ho0); obtain ⟨Ao42, co42, eo42⟩ := Kd.R_slice HO435.out; subst eo42))
                                go_ret
                                exact ⟨by first | rfl | (simp [errW_none, errW_some] <;> rfl) | (simp [*, errW_none, errW_some] <;> rfl), by repeat (first | (with_reducible first | exact HB.out | apply below_alloc | apply pw_below_drewN | apply below_drew1) | exact HB.out)⟩
                              · replace c36 := Bool.eq_false_iff.mpr c36
                                subst c36
                                have H1 : (some false) = some r := by rw [if_neg (show ¬ (false = true) by decide)] at H; exact H
                                clear H
                                have H := H1
                                clear H1
                                obtain rfl := Option.some.inj H
                                have p428 : 0 ≤ (t417 : Int) := of_decide_eq_true (by first | (with_reducible assumption) | assumption)
                                have q428 : t417 < (l0.length : Int) := of_decide_eq_true (by first | (with_reducible assumption) | assumption)
                                obtain ⟨ad428, e428, hx428_0, hx428_1, hx428_2⟩ := at_T38 HR0.out t417 p428 q428
                                cases e428
                                replace hx428_0 := (HB.out.cell (World.block_lt_of_cell? w _ hx428_0)).trans hx428_0
                                replace hx428_1 := (HB.out.cell (World.block_lt_of_cell? w _ hx428_1)).trans hx428_1
                                replace hx428_2 := (HB.out.cell (World.block_lt_of_cell? w _ hx428_2)).trans hx428_2
                                replace p428 := eq_true p428
                                replace q428 := eq_true q428
                                go_wp2_with (first | (go_at_call 22; (refine (tammyref01_Right.calls kj12 _ _ ([] : List (S52)) false _ ?side1 ?side2 A35.out).mono ?_); (case side1 => exact Kd.C_nil _ _); (case side2 => exact Nat.le_refl _); rintro e w' ⟨rfl, ⟨nd, rfl⟩⟩))
                                go_ret
                                exact ⟨by first | rfl | (simp [errW_none, errW_some] <;> rfl) | (simp [*, errW_none, errW_some] <;> rfl), by repeat (first | (with_reducible first | exact HB.out | apply below_alloc | apply pw_below_drewN | apply below_drew1) | exact HB.out)⟩
                            · rw [if_neg c34] at H
                              have c34b0 : (((rd_T38 l0 t417).f0) == 3) = false := beq_eq_false_iff_ne.mpr c34
                              have c34b1 : (((rd_T38 l0 t417).f0) != 3) = true := bne_iff_ne.mpr c34
                              by_cases c43 : ((rd_T38 l0 t417).f0) = 6
                              · rw [if_pos c43] at H
                                have c43b0 : (((rd_T38 l0 t417).f0) == 6) = true := beq_iff_eq.mpr c43
                                have c43b1 : (((rd_T38 l0 t417).f0) != 6) = false := bne_eq_false_iff_eq.mpr c43
                                clear c43
                                replace H := Option.bind_eq_some_iff.mp H
                                obtain ⟨t437, A440, H⟩ := H
                                replace H : (if t437 = true then ((side_Vars.f kj12 l0).bind fun t438 => ((tammyref08_Vars.f kj12 l0).bind fun t441 => (some ((t438.length : Int) == (t441.length : Int))))) else (some false)) = some r := H
                                have A44 := Aside0.mk A440
                                clear A440
                                by_cases c45 : t437 = true
                                · subst c45
                                  have H1 : ((side_Vars.f kj12 l0).bind fun t438 => ((tammyref08_Vars.f kj12 l0).bind fun t441 => (some ((t438.length : Int) == (t441.length : Int))))) = some r := by rw [if_pos rfl] at H; exact H
                                  clear H
                                  have H := H1
                                  clear H1
                                  replace H := Option.bind_eq_some_iff.mp H
                                  obtain ⟨t438, A460, H⟩ := H
                                  replace H : ((tammyref08_Vars.f kj12 l0).bind fun t441 => (some ((t438.length : Int) == (t441.length : Int)))) = some r := H
                                  have A46 := Aside0.mk A460
                                  clear A460
                                  replace H := Option.bind_eq_some_iff.mp H
                                  obtain ⟨t441, A470, H⟩ := H
                                  replace H : (some ((t438.length : Int) == (t441.length : Int))) = some r := H
                                  have A47 := Aside0.mk A470
                                  clear A470
                                  obtain rfl := Option.some.inj H
                                  have p428 : 0 ≤ (t417 : Int) := of_decide_eq_true (by first | (with_reducible assumption) | assumption)
                                  have q428 : t417 < (l0.length : Int) := of_decide_eq_true (by first | (with_reducible assumption) | assumption)
                                  obtain ⟨ad428, e428, hx428_0, hx428_1, hx428_2⟩ := at_T38 HR0.out t417 p428 q428
                                  cases e428
                                  replace hx428_0 := (HB.out.cell (World.block_lt_of_cell? w _ hx428_0)).trans hx428_0
                                  replace hx428_1 := (HB.out.cell (World.block_lt_of_cell? w _ hx428_1)).trans hx428_1
                                  replace hx428_2 := (HB.out.cell (World.block_lt_of_cell? w _ hx428_2)).trans hx428_2
                                  replace p428 := eq_true p428
                                  replace q428 := eq_true q428
                                  have p436 : 0 ≤ (t417 : Int) := of_decide_eq_true (by first | (with_reducible assumption) | assumption)
                                  have q436 : t417 < (l0.length : Int) := of_decide_eq_true (by first | (with_reducible assumption) | assumption)
                                  obtain ⟨ad436, e436, hx436_0, hx436_1, hx436_2⟩ := at_T38 HR0.out t417 p436 q436
                                  obtain rfl : ad428 = ad436 := (by injection e436)
                                  replace hx436_0 := (HB.out.cell (World.block_lt_of_cell? w _ hx436_0)).trans hx436_0
                                  replace hx436_1 := (HB.out.cell (World.block_lt_of_cell? w _ hx436_1)).trans hx436_1
                                  replace hx436_2 := (HB.out.cell (World.block_lt_of_cell? w _ hx436_2)).trans hx436_2
                                  replace p436 := eq_true p436
                                  replace q436 := eq_true q436
                                  go_wp2_with (first | (go_at_call 22; (refine (tammyref01_Right.calls kj12 _ _ ([] : List (S52)) true _ ?side1 ?side2 A44.out).mono ?_); (case side1 => exact Kd.C_nil _ _); (case side2 => exact Nat.le_refl _); rintro e w' ⟨rfl, ⟨nd, rfl⟩⟩) | (go_at_call 17; (with_reducible refine (side_Vars.calls kj12 _ _ l0 t438 _ ?side1 ?side2 A46.out).mono ?_); (case side1 => repeat (first | exact (Kd.C_below HR0.out (by repeat (first | (with_reducible first | exact HB.out | apply below_alloc | apply pw_below_drewN | apply below_drew1) | exact HB.out))) | (with_reducible refine Kd.C_alloc ?_ _) | (with_reducible refine Kd.C_drewN ?_ _) | (with_reducible refine Kd.C_drew ?_))); (case side2 => exact HC0.out); rintro e w48 ⟨v439, rfl, ho0, hb⟩; have n0_ := Aside0.mk (Kd.R_lower ho0 (below_size (by repeat (first | (with_reducible first | exact HB.out | apply below_alloc | apply pw_below_drewN | apply below_drew1) | exact HB.out)))); have n1_ := Aside0.mk (below_step (by repeat (first | (with_reducible first | exact HB.out | apply below_alloc | apply pw_below_drewN | apply below_drew1) | exact HB.out)) hb); clear HB; have HO440 := n0_; have HB := n1_; clear n0_ n1_; (try clear hb); (try clear hb2); (try clear hk); (try clear hi); (try clear ho0); obtain ⟨Ao49, co49, eo49⟩ := Kd.R_slice HO440.out; subst eo49) | (go_at_call 18; (with_reducible refine (tammyref08_Vars.calls kj12 _ _ l0 t441 _ ?side1 ?side2 A47.out).mono ?_); (case side1 => repeat (first | exact (Kd.C_below HR0.out HB.out) | (with_reducible refine Kd.C_alloc ?_ _) | (with_reducible refine Kd.C_drewN ?_ _) | (with_reducible refine Kd.C_drew ?_))); (case side2 => exact HC0.out); rintro e w50 ⟨v442, rfl, ho0, hb⟩; have n0_ := Aside0.mk (Kd.R_elder' (by (with_reducible repeat (first | apply Kd.R_alloc | apply Kd.R_drewN | apply Kd.R_drew)); exact HO440.out) (Kd.R_base ho0) hb); have n1_ := Aside0.mk (Kd.R_lower (Kd.R_new' ho0 (Kd.R_lt (by (with_reducible repeat (first | apply Kd.R_alloc | apply Kd.R_drewN | apply Kd.R_drew)); exact HO440.out))) (below_size (by repeat (first | (with_reducible first | exact HB.out | apply below_alloc | apply pw_below_drewN | apply below_drew1) | exact HB.out)))); have n2_ := Aside0.mk (below_step (by repeat (first | (with_reducible first | exact HB.out | apply below_alloc | apply pw_below_drewN | apply below_drew1) | exact HB.out)) hb); clear HO440; clear HB; have HO440 := n0_; have HO443 := n1_; have HB := n2_; clear n0_ n1_ n2_; (try clear hb); (try clear hb2); (try clear hk); (try clear hi); (try clear ho0); obtain ⟨Ao51, co51, eo51⟩ := Kd.R_slice HO443.out; subst eo51))
                                  go_ret
                                  exact ⟨by first | rfl | (simp [errW_none, errW_some] <;> rfl) | (simp [*, errW_none, errW_some] <;> rfl), by repeat (first | (with_reducible first | exact HB.out | apply below_alloc | apply pw_below_drewN | apply below_drew1) | exact HB.out)⟩
                                · replace c45 := Bool.eq_false_iff.mpr c45
                                  subst c45
                                  have H1 : (some false) = some r := by rw [if_neg (show ¬ (false = true) by decide)] at H; exact H
                                  clear H
                                  have H := H1
                                  clear H1
                                  obtain rfl := Option.some.inj H
                                  have p428 : 0 ≤ (t417 : Int) := of_decide_eq_true (by first | (with_reducible assumption) | assumption)
                                  have q428 : t417 < (l0.length : Int) := of_decide_eq_true (by first | (with_reducible assumption) | assumption)
                                  obtain ⟨ad428, e428, hx428_0, hx428_1, hx428_2⟩ := at_T38 HR0.out t417 p428 q428
                                  cases e428
                                  replace hx428_0 := (HB.out.cell (World.block_lt_of_cell? w _ hx428_0)).trans hx428_0
                                  replace hx428_1 := (HB.out.cell (World.block_lt_of_cell? w _ hx428_1)).trans hx428_1
                                  replace hx428_2 := (HB.out.cell (World.block_lt_of_cell? w _ hx428_2)).trans hx428_2
                                  replace p428 := eq_true p428
                                  replace q428 := eq_true q428
                                  have p436 : 0 ≤ (t417 : Int) := of_decide_eq_true (by first | (with_reducible assumption) | assumption)
                                  have q436 : t417 < (l0.length : Int) := of_decide_eq_true (by first | (with_reducible assumption) | assumption)
                                  obtain ⟨ad436, e436, hx436_0, hx436_1, hx436_2⟩ := at_T38 HR0.out t417 p436 q436
                                  obtain rfl : ad428 = ad436 := (by injection e436)
                                  replace hx436_0 := (HB.out.cell (World.block_lt_of_cell? w _ hx436_0)).trans hx436_0
                                  replace hx436_1 := (HB.out.cell (World.block_lt_of_cell? w _ hx436_1)).trans hx436_1
                                  replace hx436_2 := (HB.out.cell (World.block_lt_of_cell? w _ hx436_2)).trans hx436_2
                                  replace p436 := eq_true p436
                                  replace q436 := eq_true q436
                                  go_wp2_with (first | (go_at_call 22; (refine (tammyref01_Right.calls kj12 _ _ ([] : List (S52)) false _ ?side1 ?side2 A44.out).mono ?_); (case side1 => exact Kd.C_nil _ _); (case side2 => exact Nat.le_refl _); rintro e w' ⟨rfl, ⟨nd, rfl⟩⟩))
                                  go_ret
                                  exact ⟨by first | rfl | (simp [errW_none, errW_some] <;> rfl) | (simp [*, errW_none, errW_some] <;> rfl), by repeat (first | (with_reducible first | exact HB.out | apply below_alloc | apply pw_below_drewN | apply below_drew1) | exact HB.out)⟩
                              · rw [if_neg c43] at H
                                have c43b0 : (((rd_T38 l0 t417).f0) == 6) = false := beq_eq_false_iff_ne.mpr c43
                                have c43b1 : (((rd_T38 l0 t417).f0) != 6) = true := bne_iff_ne.mpr c43
                                by_cases c52 : t418 = 6
                                · rw [if_pos c52] at H
                                  have c52b0 : (t418 == 6) = true := beq_iff_eq.mpr c52
                                  have c52b1 : (t418 != 6) = false := bne_eq_false_iff_eq.mpr c52
                                  clear c52
                                  by_cases c53 : ((rd_T38 l0 t417).f0) = 2
                                  · rw [if_pos c53] at H
                                    have c53b0 : (((rd_T38 l0 t417).f0) == 2) = true := beq_iff_eq.mpr c53
                                    have c53b1 : (((rd_T38 l0 t417).f0) != 2) = false := bne_eq_false_iff_eq.mpr c53
                                    clear c53
                                    obtain rfl := Option.some.inj H
                                    have p428 : 0 ≤ (t417 : Int) := of_decide_eq_true (by first | (with_reducible assumption) | assumption)
                                    have q428 : t417 < (l0.length : Int) := of_decide_eq_true (by first | (with_reducible assumption) | assumption)
                                    obtain ⟨ad428, e428, hx428_0, hx428_1, hx428_2⟩ := at_T38 HR0.out t417 p428 q428
                                    cases e428
                                    replace hx428_0 := (HB.out.cell (World.block_lt_of_cell? w _ hx428_0)).trans hx428_0
                                    replace hx428_1 := (HB.out.cell (World.block_lt_of_cell? w _ hx428_1)).trans hx428_1
                                    replace hx428_2 := (HB.out.cell (World.block_lt_of_cell? w _ hx428_2)).trans hx428_2
                                    replace p428 := eq_true p428
                                    replace q428 := eq_true q428
                                    have p436 : 0 ≤ (t417 : Int) := of_decide_eq_true (by first | (with_reducible assumption) | assumption)
                                    have q436 : t417 < (l0.length : Int) := of_decide_eq_true (by first | (with_reducible assumption) | assumption)
                                    obtain ⟨ad436, e436, hx436_0, hx436_1, hx436_2⟩ := at_T38 HR0.out t417 p436 q436
                                    obtain rfl : ad428 = ad436 := (by injection e436)
                                    replace hx436_0 := (HB.out.cell (World.block_lt_of_cell? w _ hx436_0)).trans hx436_0
                                    replace hx436_1 := (HB.out.cell (World.block_lt_of_cell? w _ hx436_1)).trans hx436_1
                                    replace hx436_2 := (HB.out.cell (World.block_lt_of_cell? w _ hx436_2)).trans hx436_2
                                    replace p436 := eq_true p436
                                    replace q436 := eq_true q436
                                    have p444 : 0 ≤ (t417 : Int) := of_decide_eq_true (by first | (with_reducible assumption) | assumption)
                                    have q444 : t417 < (l0.length : Int) := of_decide_eq_true (by first | (with_reducible assumption) | assumption)
                                    obtain ⟨ad444, e444, hx444_0, hx444_1, hx444_2⟩ := at_T38 HR0.out t417 p444 q444
                                    obtain rfl : ad428 = ad444 := (by injection e444)
                                    replace hx444_0 := (HB.out.cell (World.block_lt_of_cell? w _ hx444_0)).trans hx444_0
                                    replace hx444_1 := (HB.out.cell (World.block_lt_of_cell? w _ hx444_1)).trans hx444_1
                                    replace hx444_2 := (HB.out.cell (World.block_lt_of_cell? w _ hx444_2)).trans hx444_2
                                    replace p444 := eq_true p444
                                    replace q444 := eq_true q444
                                    go_wp2
                                    go_ret
                                    exact ⟨by first | rfl | (simp [errW_none, errW_some] <;> rfl) | (simp [*, errW_none, errW_some] <;> rfl), by repeat (first | (with_reducible first | exact HB.out | apply below_alloc | apply pw_below_drewN | apply below_drew1) | exact HB.out)⟩
                                  · rw [if_neg c53] at H
                                    have c53b0 : (((rd_T38 l0 t417).f0) == 2) = false := beq_eq_false_iff_ne.mpr c53
                                    have c53b1 : (((rd_T38 l0 t417).f0) != 2) = true := bne_iff_ne.mpr c53
                                    replace H := Option.bind_eq_some_iff.mp H
                                    obtain ⟨t445, A540, H⟩ := H
                                    replace H : (if t445 = true then ((side_Vars.f kj12 l0).bind fun t446 => ((tammyref08_Vars.f kj12 l0).bind fun t449 => (some ((t446.length : Int) == (t449.length : Int))))) else (some false)) = some r := H
                                    have A54 := Aside0.mk A540
                                    clear A540
                                    by_cases c55 : t445 = true
                                    · subst c55
                                      have H1 : ((side_Vars.f kj12 l0).bind fun t446 => ((tammyref08_Vars.f kj12 l0).bind fun t449 => (some ((t446.length : Int) == (t449.length : Int))))) = some r := by rw [if_pos rfl] at H; exact H
                                      clear H
                                      have H := H1
                                      clear H1
                                      replace H := Option.bind_eq_some_iff.mp H
                                      obtain ⟨t446, A560, H⟩ := H
                                      replace H : ((tammyref08_Vars.f kj12 l0).bind fun t449 => (some ((t446.length : Int) == (t449.length : Int)))) = some r := H
                                      have A56 := Aside0.mk A560
                                      clear A560
                                      replace H := Option.bind_eq_some_iff.mp H
                                      obtain ⟨t449, A570, H⟩ := H
                                      replace H : (some ((t446.length : Int) == (t449.length : Int))) = some r := H
                                      have A57 := Aside0.mk A570
                                      clear A570
                                      obtain rfl := Option.some.inj H
                                      have p428 : 0 ≤ (t417 : Int) := of_decide_eq_true (by first | (with_reducible assumption) | assumption)
                                      have q428 : t417 < (l0.length : Int) := of_decide_eq_true (by first | (with_reducible assumption) | assumption)
                                      obtain ⟨ad428, e428, hx428_0, hx428_1, hx428_2⟩ := at_T38 HR0.out t417 p428 q428
                                      cases e428
                                      replace hx428_0 := (HB.out.cell (World.block_lt_of_cell? w _ hx428_0)).trans hx428_0
                                      replace hx428_1 := (HB.out.cell (World.block_lt_of_cell? w _ hx428_1)).trans hx428_1
                                      replace hx428_2 := (HB.out.cell (World.block_lt_of_cell? w _ hx428_2)).trans hx428_2
                                      replace p428 := eq_true p428
                                      replace q428 := eq_true q428
                                      have p436 : 0 ≤ (t417 : Int) := of_decide_eq_true (by first | (with_reducible assumption) | assumption)
                                      have q436 : t417 < (l0.length : Int) := of_decide_eq_true (by first | (with_reducible assumption) | assumption)
                                      obtain ⟨ad436, e436, hx436_0, hx436_1, hx436_2⟩ := at_T38 HR0.out t417 p436 q436
                                      obtain rfl : ad428 = ad436 := (by injection e436)
                                      replace hx436_0 := (HB.out.cell (World.block_lt_of_cell? w _ hx436_0)).trans hx436_0
                                      replace hx436_1 := (HB.out.cell (World.block_lt_of_cell? w _ hx436_1)).trans hx436_1
                                      replace hx436_2 := (HB.out.cell (World.block_lt_of_cell? w _ hx436_2)).trans hx436_2
                                      replace p436 := eq_true p436
                                      replace q436 := eq_true q436
                                      have p444 : 0 ≤ (t417 : Int) := of_decide_eq_true (by first | (with_reducible assumption) | assumption)
                                      have q444 : t417 < (l0.length : Int) := of_decide_eq_true (by first | (with_reducible assumption) | assumption)
                                      obtain ⟨ad444, e444, hx444_0, hx444_1, hx444_2⟩ := at_T38 HR0.out t417 p444 q444
                                      obtain rfl : ad428 = ad444 := (by injection e444)
                                      replace hx444_0 := (HB.out.cell (World.block_lt_of_cell? w _ hx444_0)).trans hx444_0
                                      replace hx444_1 := (HB.out.cell (World.block_lt_of_cell? w _ hx444_1)).trans hx444_1
                                      replace hx444_2 := (HB.out.cell (World.block_lt_of_cell? w _ hx444_2)).trans hx444_2
                                      replace p444 := eq_true p444
                                      replace q444 := eq_true q444
                                      go_wp2_with (first | (go_at_call 22; (refine (tammyref01_Right.calls kj12 _ _ ([] : List (S52)) true _ ?side1 ?side2 A54.out).mono ?_); (case side1 => exact Kd.C_nil _ _); (case side2 => exact Nat.le_refl _); rintro e w' ⟨rfl, ⟨nd, rfl⟩⟩) | (go_at_call 17; (with_reducible refine (side_Vars.calls kj12 _ _ l0 t446 _ ?side1 ?side2 A56.out).mono ?_); (case side1 => repeat (first | exact (Kd.C_below HR0.out (by repeat (first | (with_reducible first | exact HB.out | apply below_alloc | apply pw_below_drewN | apply below_drew1) | exact HB.out))) | (with_reducible refine Kd.C_alloc ?_ _) | (with_reducible refine Kd.C_drewN ?_ _) | (with_reducible refine Kd.C_drew ?_))); (case side2 => exact HC0.out); rintro e w58 ⟨v447, rfl, ho0, hb⟩; have n0_ := Aside0.mk (Kd.R_lower ho0 (below_size (by repeat (first | (with_reducible first | exact HB.out | apply below_alloc | apply pw_below_drewN | apply below_drew1) | exact HB.out)))); have n1_ := Aside0.mk (below_step (by repeat (first | (with_reducible first | exact HB.out | apply below_alloc | apply pw_below_drewN | apply below_drew1) | exact HB.out)) hb); clear HB; have HO448 := n0_; have HB := n1_; clear n0_ n1_; (try clear hb); (try clear hb2); (try clear hk); (try clear hi); (try clear ho0); obtain ⟨Ao59, co59, eo59⟩ := Kd.R_slice HO448.out; subst eo59) | (go_at_call 18; (with_reducible refine (tammyref08_Vars.calls kj12 _ _ l0 t449 _ ?side1 ?side2 A57.out).mono ?_); (case side1 => repeat (first | exact (Kd.C_below HR0.out HB.out) | (with_reducible refine Kd.C_alloc ?_ _) | (with_reducible refine Kd.C_drewN ?_ _) | (with_reducible refine Kd.C_drew ?_))); (case side2 => exact HC0.out); rintro e w60 ⟨v450, rfl, ho0, hb⟩; have n0_ := Aside0.mk (Kd.R_elder' (by (with_reducible repeat (first | apply Kd.R_alloc | apply Kd.R_drewN | apply Kd.R_drew)); exact HO448.out) (Kd.R_base ho0) hb); have n1_ := Aside0.mk (Kd.R_lower (Kd.R_new' ho0 (Kd.R_lt (by (with_reducible repeat (first | apply Kd.R_alloc | apply Kd.R_drewN | apply Kd.R_drew)); exact HO448.out))) (below_size (by repeat (first | (with_reducible first | exact HB.out | apply below_alloc | apply pw_below_drewN | apply below_drew1) | exact HB.out)))); have n2_ := Aside0.mk (below_step (by repeat (first | (with_reducible first | exact HB.out | apply below_alloc | apply pw_below_drewN | apply below_drew1) | exact HB.out)) hb); clear HO448; clear HB; have HO448 := n0_; have HO451 := n1_; have HB := n2_; clear n0_ n1_ n2_; (try clear hb); (try clear hb2); (try clear hk); (try clear hi); (try clear ho0); obtain ⟨Ao61, co61, eo61⟩ := Kd.R_slice HO451.out; subst eo61))
                                      go_ret
                                      exact ⟨by first | rfl | (simp [errW_none, errW_some] <;> rfl) | (simp [*, errW_none, errW_some] <;> rfl), by repeat (first | (with_reducible first | exact HB.out | apply below_alloc | apply pw_below_drewN | apply below_drew1) | exact HB.out)⟩
                                    · replace c55 := Bool.eq_false_iff.mpr c55
                                      subst c55
                                      have H1 : (some false) = some r := by rw [if_neg (show ¬ (false = true) by decide)] at H; exact H
                                      clear H
                                      have H := H1
                                      clear H1
                                      obtain rfl := Option.some.inj H
                                      have p428 : 0 ≤ (t417 : Int) := of_decide_eq_true (by first | (with_reducible assumption) | assumption)
                                      have q428 : t417 < (l0.length : Int) := of_decide_eq_true (by first | (with_reducible assumption) | assumption)
                                      obtain ⟨ad428, e428, hx428_0, hx428_1, hx428_2⟩ := at_T38 HR0.out t417 p428 q428
                                      cases e428
                                      replace hx428_0 := (HB.out.cell (World.block_lt_of_cell? w _ hx428_0)).trans hx428_0
                                      replace hx428_1 := (HB.out.cell (World.block_lt_of_cell? w _ hx428_1)).trans hx428_1
                                      replace hx428_2 := (HB.out.cell (World.block_lt_of_cell? w _ hx428_2)).trans hx428_2
                                      replace p428 := eq_true p428
                                      replace q428 := eq_true q428
                                      have p436 : 0 ≤ (t417 : Int) := of_decide_eq_true (by first | (with_reducible assumption) | assumption)
                                      have q436 : t417 < (l0.length : Int) := of_decide_eq_true (by first | (with_reducible assumption) | assumption)
                                      obtain ⟨ad436, e436, hx436_0, hx436_1, hx436_2⟩ := at_T38 HR0.out t417 p436 q436
                                      obtain rfl : ad428 = ad436 := (by injection e436)
                                      replace hx436_0 := (HB.out.cell (World.block_lt_of_cell? w _ hx436_0)).trans hx436_0
                                      replace hx436_1 := (HB.out.cell (World.block_lt_of_cell? w _ hx436_1)).trans hx436_1
                                      replace hx436_2 := (HB.out.cell (World.block_lt_of_cell? w _ hx436_2)).trans hx436_2
                                      replace p436 := eq_true p436
                                      replace q436 := eq_true q436
                                      have p444 : 0 ≤ (t417 : Int) := of_decide_eq_true (by first | (with_reducible assumption) | assumption)
                                      have q444 : t417 < (l0.length : Int) := of_decide_eq_true (by first | (with_reducible assumption) | assumption)
                                      obtain ⟨ad444, e444, hx444_0, hx444_1, hx444_2⟩ := at_T38 HR0.out t417 p444 q444
                                      obtain rfl : ad428 = ad444 := (by injection e444)
                                      replace hx444_0 := (HB.out.cell (World.block_lt_of_cell? w _ hx444_0)).trans hx444_0
                                      replace hx444_1 := (HB.out.cell (World.block_lt_of_cell? w _ hx444_1)).trans hx444_1
                                      replace hx444_2 := (HB.out.cell (World.block_lt_of_cell? w _ hx444_2)).trans hx444_2
                                      replace p444 := eq_true p444
                                      replace q444 := eq_true q444
                                      go_wp2_with (first | (go_at_call 22; (refine (tammyref01_Right.calls kj12 _ _ ([] : List (S52)) false _ ?side1 ?side2 A54.out).mono ?_); (case side1 => exact Kd.C_nil _ _); (case side2 => exact Nat.le_refl _); rintro e w' ⟨rfl, ⟨nd, rfl⟩⟩))
                                      go_ret
                                      exact ⟨by first | rfl | (simp [errW_none, errW_some] <;> rfl) | (simp [*, errW_none, errW_some] <;> rfl), by repeat (first | (with_reducible first | exact HB.out | apply below_alloc | apply pw_below_drewN | apply below_drew1) | exact HB.out)⟩
                                · rw [if_neg c52] at H
                                  have c52b0 : (t418 == 6) = false := beq_eq_false_iff_ne.mpr c52
                                  have c52b1 : (t418 != 6) = true := bne_iff_ne.mpr c52
                                  obtain rfl := Option.some.inj H
                                  have p428 : 0 ≤ (t417 : Int) := of_decide_eq_true (by first | (with_reducible assumption) | assumption)
                                  have q428 : t417 < (l0.length : Int) := of_decide_eq_true (by first | (with_reducible assumption) | assumption)
                                  obtain ⟨ad428, e428, hx428_0, hx428_1, hx428_2⟩ := at_T38 HR0.out t417 p428 q428
                                  cases e428
                                  replace hx428_0 := (HB.out.cell (World.block_lt_of_cell? w _ hx428_0)).trans hx428_0
                                  replace hx428_1 := (HB.out.cell (World.block_lt_of_cell? w _ hx428_1)).trans hx428_1
                                  replace hx428_2 := (HB.out.cell (World.block_lt_of_cell? w _ hx428_2)).trans hx428_2
                                  replace p428 := eq_true p428
                                  replace q428 := eq_true q428
                                  have p436 : 0 ≤ (t417 : Int) := of_decide_eq_true (by first | (with_reducible assumption) | assumption)
                                  have q436 : t417 < (l0.length : Int) := of_decide_eq_true (by first | (with_reducible assumption) | assumption)
                                  obtain ⟨ad436, e436, hx436_0, hx436_1, hx436_2⟩ := at_T38 HR0.out t417 p436 q436
                                  obtain rfl : ad428 = ad436 := (by injection e436)
                                  replace hx436_0 := (HB.out.cell (World.block_lt_of_cell? w _ hx436_0)).trans hx436_0
                                  replace hx436_1 := (HB.out.cell (World.block_lt_of_cell? w _ hx436_1)).trans hx436_1
                                  replace hx436_2 := (HB.out.cell (World.block_lt_of_cell? w _ hx436_2)).trans hx436_2
                                  replace p436 := eq_true p436
                                  replace q436 := eq_true q436
                                  go_wp2
                                  go_ret
                                  exact ⟨by first | rfl | (simp [errW_none, errW_some] <;> rfl) | (simp [*, errW_none, errW_some] <;> rfl), by repeat (first | (with_reducible first | exact HB.out | apply below_alloc | apply pw_below_drewN | apply below_drew1) | exact HB.out)⟩
                          · rw [if_neg c33] at H
                            exact absurd H (by simp)
                        · rw [if_neg c32] at H
                          exact absurd H (by simp)
                      · rw [if_neg c31] at H
                        have c31b0 : (t418 == 3) = false := beq_eq_false_iff_ne.mpr c31
                        have c31b1 : (t418 != 3) = true := bne_iff_ne.mpr c31
                        by_cases c62 : t418 = 6
                        · rw [if_pos c62] at H
                          have c62b0 : (t418 == 6) = true := beq_iff_eq.mpr c62
                          have c62b1 : (t418 != 6) = false := bne_eq_false_iff_eq.mpr c62
                          clear c62
                          by_cases c63 : 0 ≤ t417
                          · rw [if_pos c63] at H
                            have c63b0 : decide (0 ≤ t417) = true := decide_eq_true c63
                            clear c63
                            by_cases c64 : t417 < (l0.length : Int)
                            · rw [if_pos c64] at H
                              have c64b0 : decide (t417 < (l0.length : Int)) = true := decide_eq_true c64
                              clear c64
                              by_cases c65 : ((rd_T38 l0 t417).f0) = 2
                              · rw [if_pos c65] at H
                                have c65b0 : (((rd_T38 l0 t417).f0) == 2) = true := beq_iff_eq.mpr c65
                                have c65b1 : (((rd_T38 l0 t417).f0) != 2) = false := bne_eq_false_iff_eq.mpr c65
                                clear c65
                                obtain rfl := Option.some.inj H
                                have p452 : 0 ≤ (t417 : Int) := of_decide_eq_true (by first | (with_reducible assumption) | assumption)
                                have q452 : t417 < (l0.length : Int) := of_decide_eq_true (by first | (with_reducible assumption) | assumption)
                                obtain ⟨ad452, e452, hx452_0, hx452_1, hx452_2⟩ := at_T38 HR0.out t417 p452 q452
                                cases e452
                                replace hx452_0 := (HB.out.cell (World.block_lt_of_cell? w _ hx452_0)).trans hx452_0
                                replace hx452_1 := (HB.out.cell (World.block_lt_of_cell? w _ hx452_1)).trans hx452_1
                                replace hx452_2 := (HB.out.cell (World.block_lt_of_cell? w _ hx452_2)).trans hx452_2
                                replace p452 := eq_true p452
                                replace q452 := eq_true q452
                                go_wp2
                                go_ret
                                exact ⟨by first | rfl | (simp [errW_none, errW_some] <;> rfl) | (simp [*, errW_none, errW_some] <;> rfl), by repeat (first | (with_reducible first | exact HB.out | apply below_alloc | apply pw_below_drewN | apply below_drew1) | exact HB.out)⟩
                              · rw [if_neg c65] at H
                                have c65b0 : (((rd_T38 l0 t417).f0) == 2) = false := beq_eq_false_iff_ne.mpr c65
                                have c65b1 : (((rd_T38 l0 t417).f0) != 2) = true := bne_iff_ne.mpr c65
                                replace H := Option.bind_eq_some_iff.mp H
                                obtain ⟨t453, A660, H⟩ := H
                                replace H : (if t453 = true then ((side_Vars.f kj12 l0).bind fun t454 => ((tammyref08_Vars.f kj12 l0).bind fun t457 => (some ((t454.length : Int) == (t457.length : Int))))) else (some false)) = some r := H
                                have A66 := Aside0.mk A660
                                clear A660
                                by_cases c67 : t453 = true
                                · subst c67
                                  have H1 : ((side_Vars.f kj12 l0).bind fun t454 => ((tammyref08_Vars.f kj12 l0).bind fun t457 => (some ((t454.length : Int) == (t457.length : Int))))) = some r := by rw [if_pos rfl] at H; exact H
                                  clear H
                                  have H := H1
                                  clear H1
                                  replace H := Option.bind_eq_some_iff.mp H
                                  obtain ⟨t454, A680, H⟩ := H
                                  replace H : ((tammyref08_Vars.f kj12 l0).bind fun t457 => (some ((t454.length : Int) == (t457.length : Int)))) = some r := H
                                  have A68 := Aside0.mk A680
                                  clear A680
                                  replace H := Option.bind_eq_some_iff.mp H
                                  obtain ⟨t457, A690, H⟩ := H
                                  replace H : (some ((t454.length : Int) == (t457.length : Int))) = some r := H
                                  have A69 := Aside0.mk A690
                                  clear A690
                                  obtain rfl := Option.some.inj H
                                  have p452 : 0 ≤ (t417 : Int) := of_decide_eq_true (by first | (with_reducible assumption) | assumption)
                                  have q452 : t417 < (l0.length : Int) := of_decide_eq_true (by first | (with_reducible assumption) | assumption)
                                  obtain ⟨ad452, e452, hx452_0, hx452_1, hx452_2⟩ := at_T38 HR0.out t417 p452 q452
                                  cases e452
                                  replace hx452_0 := (HB.out.cell (World.block_lt_of_cell? w _ hx452_0)).trans hx452_0
                                  replace hx452_1 := (HB.out.cell (World.block_lt_of_cell? w _ hx452_1)).trans hx452_1
                                  replace hx452_2 := (HB.out.cell (World.block_lt_of_cell? w _ hx452_2)).trans hx452_2
                                  replace p452 := eq_true p452
                                  replace q452 := eq_true q452
                                  go_wp2_with (first | (go_at_call 22; (refine (tammyref01_Right.calls kj12 _ _ ([] : List (S52)) true _ ?side1 ?side2 A66.out).mono ?_); (case side1 => exact Kd.C_nil _ _); (case side2 => exact Nat.le_refl _); rintro e w' ⟨rfl, ⟨nd, rfl⟩⟩) | (go_at_call 17; (with_reducible refine (side_Vars.calls kj12 _ _ l0 t454 _ ?side1 ?side2 A68.out).mono ?_); (case side1 => repeat (first | exact (Kd.C_below HR0.out (by repeat (first | (with_reducible first | exact HB.out | apply below_alloc | apply pw_below_drewN | apply below_drew1) | exact HB.out))) | (with_reducible refine Kd.C_alloc ?_ _) | (with_reducible refine Kd.C_drewN ?_ _) | (with_reducible refine Kd.C_drew ?_))); (case side2 => exact HC0.out); rintro e w70 ⟨v455, rfl, ho0, hb⟩; have n0_ := Aside0.mk (Kd.R_lower ho0 (below_size (by repeat (first | (with_reducible first | exact HB.out | apply below_alloc | apply pw_below_drewN | apply below_drew1) | exact HB.out)))); have n1_ := Aside0.mk (below_step (by repeat (first | (with_reducible first | exact HB.out | apply below_alloc | apply pw_below_drewN | apply below_drew1) | exact HB.out)) hb); clear HB; have HO456 := n0_; have HB := n1_; clear n0_ n1_; (try clear hb); (try clear hb2); (try clear hk); (try clear hi); (try clear ho0); obtain ⟨Ao71, co71, eo71⟩ := Kd.R_slice HO456.out; subst eo71) | (go_at_call 18; (with_reducible refine (tammyref08_Vars.calls kj12 _ _ l0 t457 _ ?side1 ?side2 A69.out).mono ?_); (case side1 => repeat (first | exact (Kd.C_below HR0.out HB.out) | (with_reducible refine Kd.C_alloc ?_ _) | (with_reducible refine Kd.C_drewN ?_ _) | (with_reducible refine Kd.C_drew ?_))); (case side2 => exact HC0.out); rintro e w72 ⟨v458, rfl, ho0, hb⟩; have n0_ := Aside0.mk (Kd.R_elder' (by (with_reducible repeat (first | apply Kd.R_alloc | apply Kd.R_drewN | apply Kd.R_drew)); exact HO456.out) (Kd.R_base ho0) hb); have n1_ := Aside0.mk (Kd.R_lower (Kd.R_new' ho0 (Kd.R_lt (by (with_reducible repeat (first | apply Kd.R_alloc | apply Kd.R_drewN | apply Kd.R_drew)); exact HO456.out))) (below_size (by repeat (first | (with_reducible first | exact HB.out | apply below_alloc | apply pw_below_drewN | apply below_drew1) | exact HB.out)))); have n2_ := Aside0.mk (below_step (by repeat (first | (with_reducible first | exact HB.out | apply below_alloc | apply pw_below_drewN | apply below_drew1) | exact HB.out)) hb); clear HO456; clear HB; have HO456 := n0_; have HO459 := n1_; have HB := n2_; clear n0_ n1_ n2_; (try clear hb); (try clear hb2); (try clear hk); (try clear hi); (try clear ho0); obtain ⟨Ao73, co73, eo73⟩ := Kd.R_slice HO459.out; subst eo73))
                                  go_ret
                                  exact ⟨by first | rfl | (simp [errW_none, errW_some] <;> rfl) | (simp [*, errW_none, errW_some] <;> rfl), by repeat (first | (with_reducible first | exact HB.out | apply below_alloc | apply pw_below_drewN | apply below_drew1) | exact HB.out)⟩
                                · replace c67 := Bool.eq_false_iff.mpr c67
                                  subst c67
                                  have H1 : (some false) = some r := by rw [if_neg (show ¬ (false = true) by decide)] at H; exact H
                                  clear H
                                  have H := H1
                                  clear H1
                                  obtain rfl := Option.some.inj H
                                  have p452 : 0 ≤ (t417 : Int) := of_decide_eq_true (by first | (with_reducible assumption) | assumption)
                                  have q452 : t417 < (l0.length : Int) := of_decide_eq_true (by first | (with_reducible assumption) | assumption)
                                  obtain ⟨ad452, e452, hx452_0, hx452_1, hx452_2⟩ := at_T38 HR0.out t417 p452 q452
                                  cases e452
                                  replace hx452_0 := (HB.out.cell (World.block_lt_of_cell? w _ hx452_0)).trans hx452_0
                                  replace hx452_1 := (HB.out.cell (World.block_lt_of_cell? w _ hx452_1)).trans hx452_1
                                  replace hx452_2 := (HB.out.cell (World.block_lt_of_cell? w _ hx452_2)).trans hx452_2
                                  replace p452 := eq_true p452
                                  replace q452 := eq_true q452
                                  go_wp2_with (first | (go_at_call 22; (refine (tammyref01_Right.calls kj12 _ _ ([] : List (S52)) false _ ?side1 ?side2 A66.out).mono ?_); (case side1 => exact Kd.C_nil _ _); (case side2 => exact Nat.le_refl _); rintro e w' ⟨rfl, ⟨nd, rfl⟩⟩))
                                  go_ret
                                  exact ⟨by first | rfl | (simp [errW_none, errW_some] <;> rfl) | (simp [*, errW_none, errW_some] <;> rfl), by repeat (first | (with_reducible first | exact HB.out | apply below_alloc | apply pw_below_drewN | apply below_drew1) | exact HB.out)⟩
                            · rw [if_neg c64] at H
                              exact absurd H (by simp)
                          · rw [if_neg c63] at H
                            exact absurd H (by simp)
                        · rw [if_neg c62] at H
                          have c62b0 : (t418 == 6) = false := beq_eq_false_iff_ne.mpr c62
                          have c62b1 : (t418 != 6) = true := bne_iff_ne.mpr c62
                          obtain rfl := Option.some.inj H
                          go_wp2
                          go_ret
                          exact ⟨by first | rfl | (simp [errW_none, errW_some] <;> rfl) | (simp [*, errW_none, errW_some] <;> rfl), by repeat (first | (with_reducible first | exact HB.out | apply below_alloc | apply pw_below_drewN | apply below_drew1) | exact HB.out)⟩
                  · replace c21 := Bool.eq_false_iff.mpr c21
                    subst c21
                    have H1 : (some false) = some r := by rw [if_neg (show ¬ (false = true) by decide)] at H; exact H
                    clear H
                    have H := H1
                    clear H1
                    obtain rfl := Option.some.inj H
                    go_wp2
                    go_ret
                    exact ⟨by first | rfl | (simp [errW_none, errW_some] <;> rfl) | (simp [*, errW_none, errW_some] <;> rfl), by repeat (first | (with_reducible first | exact HB.out | apply below_alloc | apply pw_below_drewN | apply below_drew1) | exact HB.out)⟩

end Go.Proofs.Ytgbickkmfjngbaa.K
