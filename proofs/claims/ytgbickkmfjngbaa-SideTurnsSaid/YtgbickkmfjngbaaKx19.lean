-- Laid by a program of this session (wip/gprint.py) over the kit's print of the translation; Lean checks it.
import Derived.Test.YtgbickkmfjngbaaKx0
import Derived.Test.YtgbickkmfjngbaaKx5
import Derived.Test.YtgbickkmfjngbaaKx11
import Derived.Test.YtgbickkmfjngbaaGe
namespace Go.Proofs.Ytgbickkmfjngbaa.K
open Go.RowKit Go.Proofs.YtgbickkmfjngbaaW.PrintWords Go.Proofs.YtgbickkmfjngbaaW.PrintLast Go.Proofs.YtgbickkmfjngbaaG.Words
set_option linter.unusedVariables false
set_option linter.unusedSimpArgs false

/-! ### tammylaw08_SideTurns: function 7 -/
mutual
def tammylaw08_SideTurns.j0 : Nat → List (S38) → Bool → List Int → List Int → List Int → Bool → Option (Bool)
  | 0, _, _, _, _, _, _ => none
  | k + 1, x1, x5, x6, x7, x8, x43 => if x43 = true then (some false) else (tammylaw08_SideTurns.l0 k x1 x5 x6 x7 x8 0)
def tammylaw08_SideTurns.l0 : Nat → List (S38) → Bool → List Int → List Int → List Int → Int → Option (Bool)
  | 0, _, _, _, _, _, _ => none
  | k + 1, x1, x5, x6, x7, x8, x9 => if x9 < (x1.length : Int) then (if 0 ≤ x9 then (if x9 < (x8.length : Int) then (if (rd x8 x9) = 66 then (if x9 < (x6.length : Int) then (if x9 < (x7.length : Int) then (if (((rd x6 x9) == 66) != ((rd x7 x9) == 66)) = true then (some false) else (if (rd x6 x9) = 66 then (tammylaw08_SideTurns.l0 k x1 x5 x6 x7 x8 (wrap64 (x9 + 1))) else (if (rd x6 x9) = (rd x7 x9) then (some false) else (tammylaw08_SideTurns.l0 k x1 x5 x6 x7 x8 (wrap64 (x9 + 1)))))) else (none)) else (none)) else (some false)) else (none)) else (none)) else (if x5 = true then (if 0 ≤ (wrap64 ((x1.length : Int) - 1)) then (if (wrap64 ((x1.length : Int) - 1)) < (x6.length : Int) then (if (rd x6 (wrap64 ((x1.length : Int) - 1))) = 76 then (if (wrap64 ((x1.length : Int) - 1)) < (x7.length : Int) then (some ((rd x7 (wrap64 ((x1.length : Int) - 1))) == 82)) else (none)) else (some false)) else (none)) else (none)) else (some false))
end
def tammylaw08_SideTurns.f (k : Nat) (l0 : List (S52)) (l1 : List (S38)) : Option (Bool) := (tammylaw08_shown.f k).bind fun t370 => ((tammylaw08_of.f k l0 l1).bind fun t371 => (if t371 = true then ((side_Of.f l0 l1 76).bind fun t372 => ((side_Of.f l0 l1 82).bind fun t375 => ((side_Of.f l0 l1 66).bind fun t378 => (if (t372.length : Int) = (l1.length : Int) then (if (t375.length : Int) = (l1.length : Int) then (tammylaw08_SideTurns.j0 k l1 t370 t372 t375 t378 ((t378.length : Int) != (l1.length : Int))) else (tammylaw08_SideTurns.j0 k l1 t370 t372 t375 t378 true)) else (tammylaw08_SideTurns.j0 k l1 t370 t372 t375 t378 true))))) else (some t370)))
theorem tammylaw08_SideTurns.mono_l : ∀ k, (∀ y0 y1 y2 y3 y4 y5, LeO (tammylaw08_SideTurns.j0 k y0 y1 y2 y3 y4 y5) (tammylaw08_SideTurns.j0 (k + 1) y0 y1 y2 y3 y4 y5)) ∧ (∀ y0 y1 y2 y3 y4 y5, LeO (tammylaw08_SideTurns.l0 k y0 y1 y2 y3 y4 y5) (tammylaw08_SideTurns.l0 (k + 1) y0 y1 y2 y3 y4 y5))
  | 0 => ⟨fun _ _ _ _ _ _ r h => by simp [tammylaw08_SideTurns.j0] at h, fun _ _ _ _ _ _ r h => by simp [tammylaw08_SideTurns.l0] at h⟩
  | k + 1 => by
    obtain ⟨ih0, ih1⟩ := tammylaw08_SideTurns.mono_l k
    refine ⟨?_, ?_⟩
    · intro y0 y1 y2 y3 y4 y5
      unfold tammylaw08_SideTurns.j0
      repeat' first
      | (with_reducible exact ih0 _ _ _ _ _ _)
      | (with_reducible exact ih1 _ _ _ _ _ _)
      | (with_reducible exact tammylaw08_of.mono _ _ _)
      | (with_reducible exact tammylaw08_shown.mono _)
      | (with_reducible exact LeO.refl _)
      | (with_reducible exact LeO.none _)
      | (with_reducible refine LeO.ite ?_ ?_)
      | (with_reducible refine LeO.bind ?_ (fun _ => ?_))
      | exact ih0 _ _ _ _ _ _
      | exact ih1 _ _ _ _ _ _
      | exact tammylaw08_of.mono _ _ _
      | exact tammylaw08_shown.mono _
      | exact LeO.none _
      | refine LeO.ite ?_ ?_
      | refine LeO.bind ?_ (fun _ => ?_)
    · intro y0 y1 y2 y3 y4 y5
      unfold tammylaw08_SideTurns.l0
      repeat' first
      | (with_reducible exact ih0 _ _ _ _ _ _)
      | (with_reducible exact ih1 _ _ _ _ _ _)
      | (with_reducible exact tammylaw08_of.mono _ _ _)
      | (with_reducible exact tammylaw08_shown.mono _)
      | (with_reducible exact LeO.refl _)
      | (with_reducible exact LeO.none _)
      | (with_reducible refine LeO.ite ?_ ?_)
      | (with_reducible refine LeO.bind ?_ (fun _ => ?_))
      | exact ih0 _ _ _ _ _ _
      | exact ih1 _ _ _ _ _ _
      | exact tammylaw08_of.mono _ _ _
      | exact tammylaw08_shown.mono _
      | exact LeO.none _
      | refine LeO.ite ?_ ?_
      | refine LeO.bind ?_ (fun _ => ?_)
theorem tammylaw08_SideTurns.mono : ∀ a0 a1 k, LeO (tammylaw08_SideTurns.f k a0 a1) (tammylaw08_SideTurns.f (k + 1) a0 a1) := by
  intro a0 a1 k
  obtain ⟨ih0, ih1⟩ := tammylaw08_SideTurns.mono_l k
  unfold tammylaw08_SideTurns.f
  repeat' first
      | (with_reducible exact ih0 _ _ _ _ _ _)
      | (with_reducible exact ih1 _ _ _ _ _ _)
      | (with_reducible exact tammylaw08_of.mono _ _ _)
      | (with_reducible exact tammylaw08_shown.mono _)
      | (with_reducible exact LeO.refl _)
      | (with_reducible exact LeO.none _)
      | (with_reducible refine LeO.ite ?_ ?_)
      | (with_reducible refine LeO.bind ?_ (fun _ => ?_))
      | exact ih0 _ _ _ _ _ _
      | exact ih1 _ _ _ _ _ _
      | exact tammylaw08_of.mono _ _ _
      | exact tammylaw08_shown.mono _
      | exact LeO.none _
      | refine LeO.ite ?_ ?_
      | refine LeO.bind ?_ (fun _ => ?_)
set_option maxHeartbeats 8000000 in
set_option maxRecDepth 100000 in
theorem tammylaw08_SideTurns.calls (k : Nat) (A0 : Option Addr) (c0 : Nat) (l0 : List (S52)) (A1 : Option Addr) (c1 : Nat) (l1 : List (S38)) (r : Bool) (w : World) (hr0 : Kd.C k52 w A0 l0.length l0) (hc0 : l0.length ≤ c0) (hr1 : Kd.C k38 w A1 l1.length l1) (hc1 : l1.length ≤ c1) (h : tammylaw08_SideTurns.f k l0 l1 = some r) :
    Calls Try.prog 7 #[.slice A0 l0.length c0, .slice A1 l1.length c1] w fun e w' => e = .returned (.bool r) ∧ Below w.heap.size w w' := by
  have HR0 := Aside0.mk hr0
  have HC0 := Aside0.mk hc0
  clear hr0 hc0
  have HR1 := Aside0.mk hr1
  have HC1 := Aside0.mk hc1
  clear hr1 hc1
  have HB := Aside0.mk (Below.refl w.heap.size w)
  have H : ((tammylaw08_shown.f k).bind fun t370 => ((tammylaw08_of.f k l0 l1).bind fun t371 => (if t371 = true then ((side_Of.f l0 l1 76).bind fun t372 => ((side_Of.f l0 l1 82).bind fun t375 => ((side_Of.f l0 l1 66).bind fun t378 => (if (t372.length : Int) = (l1.length : Int) then (if (t375.length : Int) = (l1.length : Int) then (tammylaw08_SideTurns.j0 k l1 t370 t372 t375 t378 ((t378.length : Int) != (l1.length : Int))) else (tammylaw08_SideTurns.j0 k l1 t370 t372 t375 t378 true)) else (tammylaw08_SideTurns.j0 k l1 t370 t372 t375 t378 true))))) else (some t370)))) = some r := h
  clear h
  replace H := Option.bind_eq_some_iff.mp H
  obtain ⟨t370, A30, H⟩ := H
  replace H : ((tammylaw08_of.f k l0 l1).bind fun t371 => (if t371 = true then ((side_Of.f l0 l1 76).bind fun t372 => ((side_Of.f l0 l1 82).bind fun t375 => ((side_Of.f l0 l1 66).bind fun t378 => (if (t372.length : Int) = (l1.length : Int) then (if (t375.length : Int) = (l1.length : Int) then (tammylaw08_SideTurns.j0 k l1 t370 t372 t375 t378 ((t378.length : Int) != (l1.length : Int))) else (tammylaw08_SideTurns.j0 k l1 t370 t372 t375 t378 true)) else (tammylaw08_SideTurns.j0 k l1 t370 t372 t375 t378 true))))) else (some t370))) = some r := H
  have A3 := Aside0.mk A30
  clear A30
  replace H := Option.bind_eq_some_iff.mp H
  obtain ⟨t371, A40, H⟩ := H
  replace H : (if t371 = true then ((side_Of.f l0 l1 76).bind fun t372 => ((side_Of.f l0 l1 82).bind fun t375 => ((side_Of.f l0 l1 66).bind fun t378 => (if (t372.length : Int) = (l1.length : Int) then (if (t375.length : Int) = (l1.length : Int) then (tammylaw08_SideTurns.j0 k l1 t370 t372 t375 t378 ((t378.length : Int) != (l1.length : Int))) else (tammylaw08_SideTurns.j0 k l1 t370 t372 t375 t378 true)) else (tammylaw08_SideTurns.j0 k l1 t370 t372 t375 t378 true))))) else (some t370)) = some r := H
  have A4 := Aside0.mk A40
  clear A40
  by_cases c5 : t371 = true
  · subst c5
    have H1 : ((side_Of.f l0 l1 76).bind fun t372 => ((side_Of.f l0 l1 82).bind fun t375 => ((side_Of.f l0 l1 66).bind fun t378 => (if (t372.length : Int) = (l1.length : Int) then (if (t375.length : Int) = (l1.length : Int) then (tammylaw08_SideTurns.j0 k l1 t370 t372 t375 t378 ((t378.length : Int) != (l1.length : Int))) else (tammylaw08_SideTurns.j0 k l1 t370 t372 t375 t378 true)) else (tammylaw08_SideTurns.j0 k l1 t370 t372 t375 t378 true))))) = some r := by rw [if_pos rfl] at H; exact H
    clear H
    have H := H1
    clear H1
    replace H := Option.bind_eq_some_iff.mp H
    obtain ⟨t372, A60, H⟩ := H
    replace H : ((side_Of.f l0 l1 82).bind fun t375 => ((side_Of.f l0 l1 66).bind fun t378 => (if (t372.length : Int) = (l1.length : Int) then (if (t375.length : Int) = (l1.length : Int) then (tammylaw08_SideTurns.j0 k l1 t370 t372 t375 t378 ((t378.length : Int) != (l1.length : Int))) else (tammylaw08_SideTurns.j0 k l1 t370 t372 t375 t378 true)) else (tammylaw08_SideTurns.j0 k l1 t370 t372 t375 t378 true)))) = some r := H
    have A6 := Aside0.mk A60
    clear A60
    replace H := Option.bind_eq_some_iff.mp H
    obtain ⟨t375, A70, H⟩ := H
    replace H : ((side_Of.f l0 l1 66).bind fun t378 => (if (t372.length : Int) = (l1.length : Int) then (if (t375.length : Int) = (l1.length : Int) then (tammylaw08_SideTurns.j0 k l1 t370 t372 t375 t378 ((t378.length : Int) != (l1.length : Int))) else (tammylaw08_SideTurns.j0 k l1 t370 t372 t375 t378 true)) else (tammylaw08_SideTurns.j0 k l1 t370 t372 t375 t378 true))) = some r := H
    have A7 := Aside0.mk A70
    clear A70
    replace H := Option.bind_eq_some_iff.mp H
    obtain ⟨t378, A80, H⟩ := H
    replace H : (if (t372.length : Int) = (l1.length : Int) then (if (t375.length : Int) = (l1.length : Int) then (tammylaw08_SideTurns.j0 k l1 t370 t372 t375 t378 ((t378.length : Int) != (l1.length : Int))) else (tammylaw08_SideTurns.j0 k l1 t370 t372 t375 t378 true)) else (tammylaw08_SideTurns.j0 k l1 t370 t372 t375 t378 true)) = some r := H
    have A8 := Aside0.mk A80
    clear A80
    have HC9 := Aside0.mk H
    clear H
    go_enter Try.func7, Try.ntmps7
    go_upto_region 7 with (first | (go_at_call 10; (with_reducible refine (tammylaw08_shown.calls k  t370 _ A3.out).mono ?_); rintro e w10 ⟨rfl, hb⟩; have n0_ := Aside0.mk (below_step (by repeat (first | (with_reducible first | exact HB.out | apply below_alloc | apply pw_below_drewN | apply below_drew1) | exact HB.out)) hb); clear HB; have HB := n0_; clear n0_; (try clear hb); (try clear hb2); (try clear hk); (try clear hi)) | (go_at_call 11; (with_reducible refine (tammylaw08_of.calls k _ _ l0 _ _ l1 true _ ?side1 ?side2 ?side3 ?side4 A4.out).mono ?_); (case side1 => repeat (first | exact (Kd.C_below HR0.out HB.out) | (with_reducible refine Kd.C_alloc ?_ _) | (with_reducible refine Kd.C_drewN ?_ _) | (with_reducible refine Kd.C_drew ?_))); (case side2 => exact HC0.out); (case side3 => repeat (first | exact (Kd.C_below HR1.out HB.out) | (with_reducible refine Kd.C_alloc ?_ _) | (with_reducible refine Kd.C_drewN ?_ _) | (with_reducible refine Kd.C_drew ?_))); (case side4 => exact HC1.out); rintro e w11 ⟨rfl, hb⟩; have n0_ := Aside0.mk (below_step (by repeat (first | (with_reducible first | exact HB.out | apply below_alloc | apply pw_below_drewN | apply below_drew1) | exact HB.out)) hb); clear HB; have HB := n0_; clear n0_; (try clear hb); (try clear hb2); (try clear hk); (try clear hi)) | (go_at_call 14; (with_reducible refine (side_Of.calls _ _ l0 _ _ l1 76 t372 _ ?side1 ?side2 ?side3 ?side4 A6.out).mono ?_); (case side1 => repeat (first | exact (Kd.C_below HR0.out HB.out) | (with_reducible refine Kd.C_alloc ?_ _) | (with_reducible refine Kd.C_drewN ?_ _) | (with_reducible refine Kd.C_drew ?_))); (case side2 => exact HC0.out); (case side3 => repeat (first | exact (Kd.C_below HR1.out HB.out) | (with_reducible refine Kd.C_alloc ?_ _) | (with_reducible refine Kd.C_drewN ?_ _) | (with_reducible refine Kd.C_drew ?_))); (case side4 => exact HC1.out); rintro e w12 ⟨v373, rfl, ho0, hb⟩; have n0_ := Aside0.mk (Kd.R_lower ho0 (below_size (by repeat (first | (with_reducible first | exact HB.out | apply below_alloc | apply pw_below_drewN | apply below_drew1) | exact HB.out)))); have n1_ := Aside0.mk (below_step (by repeat (first | (with_reducible first | exact HB.out | apply below_alloc | apply pw_below_drewN | apply below_drew1) | exact HB.out)) hb); clear HB; have HO374 := n0_; have HB := n1_; clear n0_ n1_; (try clear hb); (try clear hb2); (try clear hk); (try clear hi); (try clear ho0)) | (go_at_call 14; (with_reducible refine (side_Of.calls _ _ l0 _ _ l1 82 t375 _ ?side1 ?side2 ?side3 ?side4 A7.out).mono ?_); (case side1 => repeat (first | exact (Kd.C_below HR0.out HB.out) | (with_reducible refine Kd.C_alloc ?_ _) | (with_reducible refine Kd.C_drewN ?_ _) | (with_reducible refine Kd.C_drew ?_))); (case side2 => exact HC0.out); (case side3 => repeat (first | exact (Kd.C_below HR1.out HB.out) | (with_reducible refine Kd.C_alloc ?_ _) | (with_reducible refine Kd.C_drewN ?_ _) | (with_reducible refine Kd.C_drew ?_))); (case side4 => exact HC1.out); rintro e w13 ⟨v376, rfl, ho0, hb⟩; have n0_ := Aside0.mk (Kd.R_elder' (by (with_reducible repeat (first | apply Kd.R_alloc | apply Kd.R_drewN | apply Kd.R_drew)); exact HO374.out) (Kd.R_base ho0) hb); have n1_ := Aside0.mk (Kd.R_lower (Kd.R_new' ho0 (Kd.R_lt (by (with_reducible repeat (first | apply Kd.R_alloc | apply Kd.R_drewN | apply Kd.R_drew)); exact HO374.out))) (below_size (by repeat (first | (with_reducible first | exact HB.out | apply below_alloc | apply pw_below_drewN | apply below_drew1) | exact HB.out)))); have n2_ := Aside0.mk (below_step (by repeat (first | (with_reducible first | exact HB.out | apply below_alloc | apply pw_below_drewN | apply below_drew1) | exact HB.out)) hb); clear HO374; clear HB; have HO374 := n0_; have HO377 := n1_; have HB := n2_; clear n0_ n1_ n2_; (try clear hb); (try clear hb2); (try clear hk); (try clear hi); (try clear ho0)) | (go_at_call 14; (with_reducible refine (side_Of.calls _ _ l0 _ _ l1 66 t378 _ ?side1 ?side2 ?side3 ?side4 A8.out).mono ?_); (case side1 => repeat (first | exact (Kd.C_below HR0.out HB.out) | (with_reducible refine Kd.C_alloc ?_ _) | (with_reducible refine Kd.C_drewN ?_ _) | (with_reducible refine Kd.C_drew ?_))); (case side2 => exact HC0.out); (case side3 => repeat (first | exact (Kd.C_below HR1.out HB.out) | (with_reducible refine Kd.C_alloc ?_ _) | (with_reducible refine Kd.C_drewN ?_ _) | (with_reducible refine Kd.C_drew ?_))); (case side4 => exact HC1.out); rintro e w14 ⟨v379, rfl, ho0, hb⟩; have n0_ := Aside0.mk (Kd.R_elder' (by (with_reducible repeat (first | apply Kd.R_alloc | apply Kd.R_drewN | apply Kd.R_drew)); exact HO374.out) (Kd.R_base ho0) hb); have n1_ := Aside0.mk (Kd.R_elder' (by (with_reducible repeat (first | apply Kd.R_alloc | apply Kd.R_drewN | apply Kd.R_drew)); exact HO377.out) (Kd.R_base ho0) hb); have n2_ := Aside0.mk (Kd.R_lower (Kd.R_new' (Kd.R_new' ho0 (Kd.R_lt (by (with_reducible repeat (first | apply Kd.R_alloc | apply Kd.R_drewN | apply Kd.R_drew)); exact HO374.out))) (Kd.R_lt (by (with_reducible repeat (first | apply Kd.R_alloc | apply Kd.R_drewN | apply Kd.R_drew)); exact HO377.out))) (below_size (by repeat (first | (with_reducible first | exact HB.out | apply below_alloc | apply pw_below_drewN | apply below_drew1) | exact HB.out)))); have n3_ := Aside0.mk (below_step (by repeat (first | (with_reducible first | exact HB.out | apply below_alloc | apply pw_below_drewN | apply below_drew1) | exact HB.out)) hb); clear HO374; clear HO377; clear HB; have HO374 := n0_; have HO377 := n1_; have HO380 := n2_; have HB := n3_; clear n0_ n1_ n2_ n3_; (try clear hb); (try clear hb2); (try clear hk); (try clear hi); (try clear ho0)))
    repeat (go_quiet (first | (go_at_call 10; (with_reducible refine (tammylaw08_shown.calls k  t370 _ A3.out).mono ?_); rintro e w10 ⟨rfl, hb⟩; have n0_ := Aside0.mk (below_step (by repeat (first | (with_reducible first | exact HB.out | apply below_alloc | apply pw_below_drewN | apply below_drew1) | exact HB.out)) hb); clear HB; have HB := n0_; clear n0_; (try clear hb); (try clear hb2); (try clear hk); (try clear hi)) | (go_at_call 11; (with_reducible refine (tammylaw08_of.calls k _ _ l0 _ _ l1 true _ ?side1 ?side2 ?side3 ?side4 A4.out).mono ?_); (case side1 => repeat (first | exact (Kd.C_below HR0.out HB.out) | (with_reducible refine Kd.C_alloc ?_ _) | (with_reducible refine Kd.C_drewN ?_ _) | (with_reducible refine Kd.C_drew ?_))); (case side2 => exact HC0.out); (case side3 => repeat (first | exact (Kd.C_below HR1.out HB.out) | (with_reducible refine Kd.C_alloc ?_ _) | (with_reducible refine Kd.C_drewN ?_ _) | (with_reducible refine Kd.C_drew ?_))); (case side4 => exact HC1.out); rintro e w11 ⟨rfl, hb⟩; have n0_ := Aside0.mk (below_step (by repeat (first | (with_reducible first | exact HB.out | apply below_alloc | apply pw_below_drewN | apply below_drew1) | exact HB.out)) hb); clear HB; have HB := n0_; clear n0_; (try clear hb); (try clear hb2); (try clear hk); (try clear hi)) | (go_at_call 14; (with_reducible refine (side_Of.calls _ _ l0 _ _ l1 76 t372 _ ?side1 ?side2 ?side3 ?side4 A6.out).mono ?_); (case side1 => repeat (first | exact (Kd.C_below HR0.out HB.out) | (with_reducible refine Kd.C_alloc ?_ _) | (with_reducible refine Kd.C_drewN ?_ _) | (with_reducible refine Kd.C_drew ?_))); (case side2 => exact HC0.out); (case side3 => repeat (first | exact (Kd.C_below HR1.out HB.out) | (with_reducible refine Kd.C_alloc ?_ _) | (with_reducible refine Kd.C_drewN ?_ _) | (with_reducible refine Kd.C_drew ?_))); (case side4 => exact HC1.out); rintro e w12 ⟨v373, rfl, ho0, hb⟩; have n0_ := Aside0.mk (Kd.R_lower ho0 (below_size (by repeat (first | (with_reducible first | exact HB.out | apply below_alloc | apply pw_below_drewN | apply below_drew1) | exact HB.out)))); have n1_ := Aside0.mk (below_step (by repeat (first | (with_reducible first | exact HB.out | apply below_alloc | apply pw_below_drewN | apply below_drew1) | exact HB.out)) hb); clear HB; have HO374 := n0_; have HB := n1_; clear n0_ n1_; (try clear hb); (try clear hb2); (try clear hk); (try clear hi); (try clear ho0)) | (go_at_call 14; (with_reducible refine (side_Of.calls _ _ l0 _ _ l1 82 t375 _ ?side1 ?side2 ?side3 ?side4 A7.out).mono ?_); (case side1 => repeat (first | exact (Kd.C_below HR0.out HB.out) | (with_reducible refine Kd.C_alloc ?_ _) | (with_reducible refine Kd.C_drewN ?_ _) | (with_reducible refine Kd.C_drew ?_))); (case side2 => exact HC0.out); (case side3 => repeat (first | exact (Kd.C_below HR1.out HB.out) | (with_reducible refine Kd.C_alloc ?_ _) | (with_reducible refine Kd.C_drewN ?_ _) | (with_reducible refine Kd.C_drew ?_))); (case side4 => exact HC1.out); rintro e w13 ⟨v376, rfl, ho0, hb⟩; have n0_ := Aside0.mk (Kd.R_elder' (by (with_reducible repeat (first | apply Kd.R_alloc | apply Kd.R_drewN | apply Kd.R_drew)); exact HO374.out) (Kd.R_base ho0) hb); have n1_ := Aside0.mk (Kd.R_lower (Kd.R_new' ho0 (Kd.R_lt (by (with_reducible repeat (first | apply Kd.R_alloc | apply Kd.R_drewN | apply Kd.R_drew)); exact HO374.out))) (below_size (by repeat (first | (with_reducible first | exact HB.out | apply below_alloc | apply pw_below_drewN | apply below_drew1) | exact HB.out)))); have n2_ := Aside0.mk (below_step (by repeat (first | (with_reducible first | exact HB.out | apply below_alloc | apply pw_below_drewN | apply below_drew1) | exact HB.out)) hb); clear HO374; clear HB; have HO374 := n0_; have HO377 := n1_; have HB := n2_; clear n0_ n1_ n2_; (try clear hb); (try clear hb2); (try clear hk); (try clear hi); (try clear ho0)) | (go_at_call 14; (with_reducible refine (side_Of.calls _ _ l0 _ _ l1 66 t378 _ ?side1 ?side2 ?side3 ?side4 A8.out).mono ?_); (case side1 => repeat (first | exact (Kd.C_below HR0.out HB.out) | (with_reducible refine Kd.C_alloc ?_ _) | (with_reducible refine Kd.C_drewN ?_ _) | (with_reducible refine Kd.C_drew ?_))); (case side2 => exact HC0.out); (case side3 => repeat (first | exact (Kd.C_below HR1.out HB.out) | (with_reducible refine Kd.C_alloc ?_ _) | (with_reducible refine Kd.C_drewN ?_ _) | (with_reducible refine Kd.C_drew ?_))); (case side4 => exact HC1.out); rintro e w14 ⟨v379, rfl, ho0, hb⟩; have n0_ := Aside0.mk (Kd.R_elder' (by (with_reducible repeat (first | apply Kd.R_alloc | apply Kd.R_drewN | apply Kd.R_drew)); exact HO374.out) (Kd.R_base ho0) hb); have n1_ := Aside0.mk (Kd.R_elder' (by (with_reducible repeat (first | apply Kd.R_alloc | apply Kd.R_drewN | apply Kd.R_drew)); exact HO377.out) (Kd.R_base ho0) hb); have n2_ := Aside0.mk (Kd.R_lower (Kd.R_new' (Kd.R_new' ho0 (Kd.R_lt (by (with_reducible repeat (first | apply Kd.R_alloc | apply Kd.R_drewN | apply Kd.R_drew)); exact HO374.out))) (Kd.R_lt (by (with_reducible repeat (first | apply Kd.R_alloc | apply Kd.R_drewN | apply Kd.R_drew)); exact HO377.out))) (below_size (by repeat (first | (with_reducible first | exact HB.out | apply below_alloc | apply pw_below_drewN | apply below_drew1) | exact HB.out)))); have n3_ := Aside0.mk (below_step (by repeat (first | (with_reducible first | exact HB.out | apply below_alloc | apply pw_below_drewN | apply below_drew1) | exact HB.out)) hb); clear HO374; clear HO377; clear HB; have HO374 := n0_; have HO377 := n1_; have HO380 := n2_; have HB := n3_; clear n0_ n1_ n2_ n3_; (try clear hb); (try clear hb2); (try clear hk); (try clear hi); (try clear ho0))); go_upto_region 7 with (first | (go_at_call 10; (with_reducible refine (tammylaw08_shown.calls k  t370 _ A3.out).mono ?_); rintro e w10 ⟨rfl, hb⟩; have n0_ := Aside0.mk (below_step (by repeat (first | (with_reducible first | exact HB.out | apply below_alloc | apply pw_below_drewN | apply below_drew1) | exact HB.out)) hb); clear HB; have HB := n0_; clear n0_; (try clear hb); (try clear hb2); (try clear hk); (try clear hi)) | (go_at_call 11; (with_reducible refine (tammylaw08_of.calls k _ _ l0 _ _ l1 true _ ?side1 ?side2 ?side3 ?side4 A4.out).mono ?_); (case side1 => repeat (first | exact (Kd.C_below HR0.out HB.out) | (with_reducible refine Kd.C_alloc ?_ _) | (with_reducible refine Kd.C_drewN ?_ _) | (with_reducible refine Kd.C_drew ?_))); (case side2 => exact HC0.out); (case side3 => repeat (first | exact (Kd.C_below HR1.out HB.out) | (with_reducible refine Kd.C_alloc ?_ _) | (with_reducible refine Kd.C_drewN ?_ _) | (with_reducible refine Kd.C_drew ?_))); (case side4 => exact HC1.out); rintro e w11 ⟨rfl, hb⟩; have n0_ := Aside0.mk (below_step (by repeat (first | (with_reducible first | exact HB.out | apply below_alloc | apply pw_below_drewN | apply below_drew1) | exact HB.out)) hb); clear HB; have HB := n0_; clear n0_; (try clear hb); (try clear hb2); (try clear hk); (try clear hi)) | (go_at_call 14; (with_reducible refine (side_Of.calls _ _ l0 _ _ l1 76 t372 _ ?side1 ?side2 ?side3 ?side4 A6.out).mono ?_); (case side1 => repeat (first | exact (Kd.C_below HR0.out HB.out) | (with_reducible refine Kd.C_alloc ?_ _) | (with_reducible refine Kd.C_drewN ?_ _) | (with_reducible refine Kd.C_drew ?_))); (case side2 => exact HC0.out); (case side3 => repeat (first | exact (Kd.C_below HR1.out HB.out) | (with_reducible refine Kd.C_alloc ?_ _) | (with_reducible refine Kd.C_drewN ?_ _) | (with_reducible refine Kd.C_drew ?_))); (case side4 => exact HC1.out); rintro e w12 ⟨v373, rfl, ho0, hb⟩; have n0_ := Aside0.mk (Kd.R_lower ho0 (below_size (by repeat (first | (with_reducible first | exact HB.out | apply below_alloc | apply pw_below_drewN | apply below_drew1) | exact HB.out)))); have n1_ := Aside0.mk (below_step (by repeat (first | (with_reducible first | exact HB.out | apply below_alloc | apply pw_below_drewN | apply below_drew1) | exact HB.out)) hb); clear HB; have HO374 := n0_; have HB := n1_; clear n0_ n1_; (try clear hb); (try clear hb2); (try clear hk); (try clear hi); (try clear ho0)) | (go_at_call 14; (with_reducible refine (side_Of.calls _ _ l0 _ _ l1 82 t375 _ ?side1 ?side2 ?side3 ?side4 A7.out).mono ?_); (case side1 => repeat (first | exact (Kd.C_below HR0.out HB.out) | (with_reducible refine Kd.C_alloc ?_ _) | (with_reducible refine Kd.C_drewN ?_ _) | (with_reducible refine Kd.C_drew ?_))); (case side2 => exact HC0.out); (case side3 => repeat (first | exact (Kd.C_below HR1.out HB.out) | (with_reducible refine Kd.C_alloc ?_ _) | (with_reducible refine Kd.C_drewN ?_ _) | (with_reducible refine Kd.C_drew ?_))); (case side4 => exact HC1.out); rintro e w13 ⟨v376, rfl, ho0, hb⟩; have n0_ := Aside0.mk (Kd.R_elder' (by (with_reducible repeat (first | apply Kd.R_alloc | apply Kd.R_drewN | apply Kd.R_drew)); exact HO374.out) (Kd.R_base ho0) hb); have n1_ := Aside0.mk (Kd.R_lower (Kd.R_new' ho0 (Kd.R_lt (by (with_reducible repeat (first | apply Kd.R_alloc | apply Kd.R_drewN | apply Kd.R_drew)); exact HO374.out))) (below_size (by repeat (first | (with_reducible first | exact HB.out | apply below_alloc | apply pw_below_drewN | apply below_drew1) | exact HB.out)))); have n2_ := Aside0.mk (below_step (by repeat (first | (with_reducible first | exact HB.out | apply below_alloc | apply pw_below_drewN | apply below_drew1) | exact HB.out)) hb); clear HO374; clear HB; have HO374 := n0_; have HO377 := n1_; have HB := n2_; clear n0_ n1_ n2_; (try clear hb); (try clear hb2); (try clear hk); (try clear hi); (try clear ho0)) | (go_at_call 14; (with_reducible refine (side_Of.calls _ _ l0 _ _ l1 66 t378 _ ?side1 ?side2 ?side3 ?side4 A8.out).mono ?_); (case side1 => repeat (first | exact (Kd.C_below HR0.out HB.out) | (with_reducible refine Kd.C_alloc ?_ _) | (with_reducible refine Kd.C_drewN ?_ _) | (with_reducible refine Kd.C_drew ?_))); (case side2 => exact HC0.out); (case side3 => repeat (first | exact (Kd.C_below HR1.out HB.out) | (with_reducible refine Kd.C_alloc ?_ _) | (with_reducible refine Kd.C_drewN ?_ _) | (with_reducible refine Kd.C_drew ?_))); (case side4 => exact HC1.out); rintro e w14 ⟨v379, rfl, ho0, hb⟩; have n0_ := Aside0.mk (Kd.R_elder' (by (with_reducible repeat (first | apply Kd.R_alloc | apply Kd.R_drewN | apply Kd.R_drew)); exact HO374.out) (Kd.R_base ho0) hb); have n1_ := Aside0.mk (Kd.R_elder' (by (with_reducible repeat (first | apply Kd.R_alloc | apply Kd.R_drewN | apply Kd.R_drew)); exact HO377.out) (Kd.R_base ho0) hb); have n2_ := Aside0.mk (Kd.R_lower (Kd.R_new' (Kd.R_new' ho0 (Kd.R_lt (by (with_reducible repeat (first | apply Kd.R_alloc | apply Kd.R_drewN | apply Kd.R_drew)); exact HO374.out))) (Kd.R_lt (by (with_reducible repeat (first | apply Kd.R_alloc | apply Kd.R_drewN | apply Kd.R_drew)); exact HO377.out))) (below_size (by repeat (first | (with_reducible first | exact HB.out | apply below_alloc | apply pw_below_drewN | apply below_drew1) | exact HB.out)))); have n3_ := Aside0.mk (below_step (by repeat (first | (with_reducible first | exact HB.out | apply below_alloc | apply pw_below_drewN | apply below_drew1) | exact HB.out)) hb); clear HO374; clear HO377; clear HB; have HO374 := n0_; have HO377 := n1_; have HO380 := n2_; have HB := n3_; clear n0_ n1_ n2_ n3_; (try clear hb); (try clear hb2); (try clear hk); (try clear hi); (try clear ho0))))
    (try simp only [Act.put, List.setIfInBounds_toArray, List.set_cons_zero, List.set_cons_succ])
    go_cut [43] (fun v43 wc => ∃ (kq : Nat) (x43_8 : Bool), v43 = .bool x43_8 ∧ Aside0 (tammylaw08_SideTurns.j0 kq l1 t370 t372 t375 t378 x43_8 = some r) ∧ Aside0 (kq ≤ k) ∧ Aside0 (Kd.R (Kd.int .u8) 5 wc w.heap.size (fun k_ => some k_ ≠ (v376 : Value).ownBlock ∧ some k_ ≠ (v379 : Value).ownBlock) v373 t372) ∧ Aside0 (Kd.R (Kd.int .u8) 5 wc w.heap.size (fun k_ => some k_ ≠ (v373 : Value).ownBlock ∧ some k_ ≠ (v379 : Value).ownBlock) v376 t375) ∧ Aside0 (Kd.R (Kd.int .u8) 5 wc w.heap.size (fun k_ => some k_ ≠ (v373 : Value).ownBlock ∧ some k_ ≠ (v376 : Value).ownBlock) v379 t378) ∧ Aside0 (Below w.heap.size w wc))
    case first =>
      have H := HC9.out
      clear HC9
      by_cases c15 : (t372.length : Int) = (l1.length : Int)
      · rw [if_pos c15] at H
        have c15b0 : ((t372.length : Int) == (l1.length : Int)) = true := beq_iff_eq.mpr c15
        have c15b1 : ((t372.length : Int) != (l1.length : Int)) = false := bne_eq_false_iff_eq.mpr c15
        have c15b2 : (t372.length == l1.length) = true := by first | simpa using c15 | (simp at c15 ⊢; omega)
        clear c15
        (first | rw [c15b0] | (simp only [i64_w, i32_w]; rw [c15b0]) | skip)
        by_cases c16 : (t375.length : Int) = (l1.length : Int)
        · rw [if_pos c16] at H
          have c16b0 : ((t375.length : Int) == (l1.length : Int)) = true := beq_iff_eq.mpr c16
          have c16b1 : ((t375.length : Int) != (l1.length : Int)) = false := bne_eq_false_iff_eq.mpr c16
          have c16b2 : (t375.length == l1.length) = true := by first | simpa using c16 | (simp at c16 ⊢; omega)
          clear c16
          have H' := Aside0.mk H
          clear H
          obtain ⟨Ao17, co17, eo17⟩ := Kd.R_slice HO374.out
          subst eo17
          obtain ⟨Ao18, co18, eo18⟩ := Kd.R_slice HO377.out
          subst eo18
          obtain ⟨Ao19, co19, eo19⟩ := Kd.R_slice HO380.out
          subst eo19
          go_wp2
          repeat (go_quiet (fail); try go_wp2)
          go_meet
          case rel => exact ⟨_, (((t378.length : Int) != (l1.length : Int))), (by first | rfl | (simp; done) | (simp [*]; done)), H', ⟨by first | omega | exact Nat.le_refl _⟩, ⟨by (with_reducible repeat (first | apply Kd.R_alloc | apply Kd.R_drewN | apply Kd.R_drew)); exact Kd.R_mono HO374.out (fun _ hk => ⟨hk.1.2, hk.2⟩)⟩, ⟨by (with_reducible repeat (first | apply Kd.R_alloc | apply Kd.R_drewN | apply Kd.R_drew)); exact Kd.R_mono HO377.out (fun _ hk => ⟨hk.1.2, hk.2⟩)⟩, ⟨by (with_reducible repeat (first | apply Kd.R_alloc | apply Kd.R_drewN | apply Kd.R_drew)); exact Kd.R_mono HO380.out (fun _ hk => ⟨hk.1.2, hk.2⟩)⟩, ⟨by repeat (first | (with_reducible first | exact HB.out | apply below_alloc | apply pw_below_drewN | apply below_drew1) | exact HB.out)⟩⟩
        · rw [if_neg c16] at H
          have c16b0 : ((t375.length : Int) == (l1.length : Int)) = false := beq_eq_false_iff_ne.mpr c16
          have c16b1 : ((t375.length : Int) != (l1.length : Int)) = true := bne_iff_ne.mpr c16
          have c16b2 : (t375.length == l1.length) = false := by first | simpa using c16 | (simp at c16 ⊢; omega)
          have H' := Aside0.mk H
          clear H
          obtain ⟨Ao20, co20, eo20⟩ := Kd.R_slice HO374.out
          subst eo20
          obtain ⟨Ao21, co21, eo21⟩ := Kd.R_slice HO377.out
          subst eo21
          go_wp2
          repeat (go_quiet (fail); try go_wp2)
          go_meet
          case rel => exact ⟨_, (true), (by first | rfl | (simp; done) | (simp [*]; done)), H', ⟨by first | omega | exact Nat.le_refl _⟩, ⟨by (with_reducible repeat (first | apply Kd.R_alloc | apply Kd.R_drewN | apply Kd.R_drew)); exact Kd.R_mono HO374.out (fun _ hk => ⟨hk.1.2, hk.2⟩)⟩, ⟨by (with_reducible repeat (first | apply Kd.R_alloc | apply Kd.R_drewN | apply Kd.R_drew)); exact Kd.R_mono HO377.out (fun _ hk => ⟨hk.1.2, hk.2⟩)⟩, ⟨by (with_reducible repeat (first | apply Kd.R_alloc | apply Kd.R_drewN | apply Kd.R_drew)); exact Kd.R_mono HO380.out (fun _ hk => ⟨hk.1.2, hk.2⟩)⟩, ⟨by repeat (first | (with_reducible first | exact HB.out | apply below_alloc | apply pw_below_drewN | apply below_drew1) | exact HB.out)⟩⟩
      · rw [if_neg c15] at H
        have c15b0 : ((t372.length : Int) == (l1.length : Int)) = false := beq_eq_false_iff_ne.mpr c15
        have c15b1 : ((t372.length : Int) != (l1.length : Int)) = true := bne_iff_ne.mpr c15
        have c15b2 : (t372.length == l1.length) = false := by first | simpa using c15 | (simp at c15 ⊢; omega)
        (first | rw [c15b0] | (simp only [i64_w, i32_w]; rw [c15b0]) | skip)
        have H' := Aside0.mk H
        clear H
        obtain ⟨Ao22, co22, eo22⟩ := Kd.R_slice HO374.out
        subst eo22
        go_wp2
        repeat (go_quiet (fail); try go_wp2)
        go_meet
        case rel => exact ⟨_, (true), (by first | rfl | (simp; done) | (simp [*]; done)), H', ⟨by first | omega | exact Nat.le_refl _⟩, ⟨by (with_reducible repeat (first | apply Kd.R_alloc | apply Kd.R_drewN | apply Kd.R_drew)); exact Kd.R_mono HO374.out (fun _ hk => ⟨hk.1.2, hk.2⟩)⟩, ⟨by (with_reducible repeat (first | apply Kd.R_alloc | apply Kd.R_drewN | apply Kd.R_drew)); exact Kd.R_mono HO377.out (fun _ hk => ⟨hk.1.2, hk.2⟩)⟩, ⟨by (with_reducible repeat (first | apply Kd.R_alloc | apply Kd.R_drewN | apply Kd.R_drew)); exact Kd.R_mono HO380.out (fun _ hk => ⟨hk.1.2, hk.2⟩)⟩, ⟨by repeat (first | (with_reducible first | exact HB.out | apply below_alloc | apply pw_below_drewN | apply below_drew1) | exact HB.out)⟩⟩
    case rest =>
      clear HC9
      try clear c1
      try clear p2
      try clear c5
      try clear c7
      try clear c15
      try clear c15b0
      try clear c15b1
      try clear c15b2
      try clear c16
      try clear c16b0
      try clear c16b1
      try clear c16b2
      obtain ⟨kq, x43_8, rfl, HA, HJ8, HO_6, HO_7, HO_8, HB⟩ := hcut
      cases kq with
      | zero => exact absurd HA.out (by simp [tammylaw08_SideTurns.j0])
      | succ kj8 =>
        have H := HA.out
        clear HA
        simp only [tammylaw08_SideTurns.j0] at H
        by_cases c23 : x43_8 = true
        · subst c23
          have H1 : (some false) = some r := by rw [if_pos rfl] at H; exact H
          clear H
          have H := H1
          clear H1
          obtain rfl := Option.some.inj H
          go_wp2
          repeat (go_quiet (fail); try go_wp2)
          go_ret
          exact ⟨by first | rfl | (simp [errW_none, errW_some] <;> rfl) | (simp [*, errW_none, errW_some] <;> rfl), by repeat (first | (with_reducible first | exact HB.out | apply below_alloc | apply pw_below_drewN | apply below_drew1) | exact HB.out)⟩
        · replace c23 := Bool.eq_false_iff.mpr c23
          subst c23
          have H1 : (tammylaw08_SideTurns.l0 kj8 l1 t370 t372 t375 t378 0) = some r := by rw [if_neg (show ¬ (false = true) by decide)] at H; exact H
          clear H
          have H := H1
          clear H1
          have H' := Aside0.mk H
          clear H
          go_wp2
          repeat (go_quiet (fail); try go_wp2)
          go_loopg [9] kj8 (fun kq v9 w' => ∃ (x9_2 : Int), v9 = .int .i64 x9_2 ∧ Aside0 (tammylaw08_SideTurns.l0 kq l1 t370 t372 t375 t378 x9_2 = some r) ∧ Aside0 (kq ≤ kj8) ∧ Aside0 (Kd.R (Kd.int .u8) 5 w' w.heap.size (fun k_ => some k_ ≠ (v376 : Value).ownBlock ∧ some k_ ≠ (v379 : Value).ownBlock) v373 t372) ∧ Aside0 (Kd.R (Kd.int .u8) 5 w' w.heap.size (fun k_ => some k_ ≠ (v373 : Value).ownBlock ∧ some k_ ≠ (v379 : Value).ownBlock) v376 t375) ∧ Aside0 (Kd.R (Kd.int .u8) 5 w' w.heap.size (fun k_ => some k_ ≠ (v373 : Value).ownBlock ∧ some k_ ≠ (v376 : Value).ownBlock) v379 t378) ∧ Aside0 (Below w.heap.size w w'))
          case atStart => exact ⟨(0), (by first | rfl | (simp; done) | (simp [*]; done)), H', ⟨Nat.le_refl _⟩, ⟨by (with_reducible repeat (first | apply Kd.R_alloc | apply Kd.R_drewN | apply Kd.R_drew)); exact HO_6.out⟩, ⟨by (with_reducible repeat (first | apply Kd.R_alloc | apply Kd.R_drewN | apply Kd.R_drew)); exact HO_7.out⟩, ⟨by (with_reducible repeat (first | apply Kd.R_alloc | apply Kd.R_drewN | apply Kd.R_drew)); exact HO_8.out⟩, ⟨by repeat (first | (with_reducible first | exact HB.out | apply below_alloc | apply pw_below_drewN | apply below_drew1) | exact HB.out)⟩⟩
          case round =>
            clear H'
            try clear c1
            try clear c2
            try clear p2
            try clear c5
            try clear c7
            try clear c15
            try clear c15b0
            try clear c15b1
            try clear c15b2
            try clear c16
            try clear c16b0
            try clear c16b1
            try clear c16b2
            try clear c23
            try clear p2
            obtain ⟨x9_2, rfl, HA, HK2, HO_6, HO_7, HO_8, HB⟩ := hrel
            cases gk with
            | zero => exact absurd HA.out (by simp [tammylaw08_SideTurns.l0])
            | succ k2 =>
              have H := HA.out
              clear HA
              simp only [tammylaw08_SideTurns.l0] at H
              by_cases c24 : x9_2 < (l1.length : Int)
              · rw [if_pos c24] at H
                have c24b0 : decide (x9_2 < (l1.length : Int)) = true := decide_eq_true c24
                clear c24
                by_cases c25 : 0 ≤ x9_2
                · rw [if_pos c25] at H
                  have c25b0 : decide (0 ≤ x9_2) = true := decide_eq_true c25
                  clear c25
                  by_cases c26 : x9_2 < (t378.length : Int)
                  · rw [if_pos c26] at H
                    have c26b0 : decide (x9_2 < (t378.length : Int)) = true := decide_eq_true c26
                    clear c26
                    by_cases c27 : (rd t378 x9_2) = 66
                    · rw [if_pos c27] at H
                      have c27b0 : ((rd t378 x9_2) == 66) = true := beq_iff_eq.mpr c27
                      have c27b1 : ((rd t378 x9_2) != 66) = false := bne_eq_false_iff_eq.mpr c27
                      clear c27
                      by_cases c28 : x9_2 < (t372.length : Int)
                      · rw [if_pos c28] at H
                        have c28b0 : decide (x9_2 < (t372.length : Int)) = true := decide_eq_true c28
                        clear c28
                        by_cases c29 : x9_2 < (t375.length : Int)
                        · rw [if_pos c29] at H
                          have c29b0 : decide (x9_2 < (t375.length : Int)) = true := decide_eq_true c29
                          clear c29
                          by_cases c30 : (((rd t372 x9_2) == 66) != ((rd t375 x9_2) == 66)) = true
                          · rw [if_pos c30] at H
                            have c30b0 : (((rd t372 x9_2) == 66) != ((rd t375 x9_2) == 66)) = true := c30
                            (try (have c30b1 : decide (((rd t372 x9_2) == 66) = ((rd t375 x9_2) == 66)) = false := by simpa using c30))
                            (try (have c30b2 : (((rd t372 x9_2) == 66) == ((rd t375 x9_2) == 66)) = false := by simpa using c30))
                            (try (have c30b3 : ¬ (((rd t372 x9_2) == 66) = ((rd t375 x9_2) == 66)) := by simpa using c30))
                            clear c30
                            obtain rfl := Option.some.inj H
                            obtain ⟨Ao31, co31, eo31⟩ := Kd.R_slice HO_8.out
                            subst eo31
                            have p381 : 0 ≤ (x9_2 : Int) := of_decide_eq_true (by first | (with_reducible assumption) | assumption)
                            have q381 : x9_2 < (t378.length : Int) := of_decide_eq_true (by first | (with_reducible assumption) | assumption)
                            obtain ⟨ad381, e381, hx381_0⟩ := Kd.at_int (Kd.R_reads' HO_8.out).2.2 x9_2 p381 q381
                            cases e381
                            replace p381 := eq_true p381
                            replace q381 := eq_true q381
                            obtain ⟨Ao32, co32, eo32⟩ := Kd.R_slice HO_6.out
                            subst eo32
                            have p382 : 0 ≤ (x9_2 : Int) := of_decide_eq_true (by first | (with_reducible assumption) | assumption)
                            have q382 : x9_2 < (t372.length : Int) := of_decide_eq_true (by first | (with_reducible assumption) | assumption)
                            obtain ⟨ad382, e382, hx382_0⟩ := Kd.at_int (Kd.R_reads' HO_6.out).2.2 x9_2 p382 q382
                            cases e382
                            replace p382 := eq_true p382
                            replace q382 := eq_true q382
                            obtain ⟨Ao33, co33, eo33⟩ := Kd.R_slice HO_7.out
                            subst eo33
                            have p383 : 0 ≤ (x9_2 : Int) := of_decide_eq_true (by first | (with_reducible assumption) | assumption)
                            have q383 : x9_2 < (t375.length : Int) := of_decide_eq_true (by first | (with_reducible assumption) | assumption)
                            obtain ⟨ad383, e383, hx383_0⟩ := Kd.at_int (Kd.R_reads' HO_7.out).2.2 x9_2 p383 q383
                            cases e383
                            replace p383 := eq_true p383
                            replace q383 := eq_true q383
                            go_wp2
                            repeat (go_quiet (fail); try go_wp2)
                            go_ret
                            exact ⟨by first | rfl | (simp [errW_none, errW_some] <;> rfl) | (simp [*, errW_none, errW_some] <;> rfl), by repeat (first | (with_reducible first | exact HB.out | apply below_alloc | apply pw_below_drewN | apply below_drew1) | exact HB.out)⟩
                          · rw [if_neg c30] at H
                            have c30b0 : (((rd t372 x9_2) == 66) != ((rd t375 x9_2) == 66)) = false := by simpa using c30
                            (try (have c30b1 : decide (((rd t372 x9_2) == 66) = ((rd t375 x9_2) == 66)) = true := by simpa using c30))
                            (try (have c30b2 : (((rd t372 x9_2) == 66) == ((rd t375 x9_2) == 66)) = true := by simpa using c30))
                            clear c30
                            by_cases c34 : (rd t372 x9_2) = 66
                            · rw [if_pos c34] at H
                              have c34b0 : ((rd t372 x9_2) == 66) = true := beq_iff_eq.mpr c34
                              (try (have c34e : ((rd t375 x9_2) == 66) = true := by (have q_ := c30b0; rw [c34b0] at q_; simpa using q_)))
                              have c34b1 : ((rd t372 x9_2) != 66) = false := bne_eq_false_iff_eq.mpr c34
                              clear c34
                              have H' := Aside0.mk H
                              clear H
                              obtain ⟨Ao35, co35, eo35⟩ := Kd.R_slice HO_8.out
                              subst eo35
                              have p381 : 0 ≤ (x9_2 : Int) := of_decide_eq_true (by first | (with_reducible assumption) | assumption)
                              have q381 : x9_2 < (t378.length : Int) := of_decide_eq_true (by first | (with_reducible assumption) | assumption)
                              obtain ⟨ad381, e381, hx381_0⟩ := Kd.at_int (Kd.R_reads' HO_8.out).2.2 x9_2 p381 q381
                              cases e381
                              replace p381 := eq_true p381
                              replace q381 := eq_true q381
                              obtain ⟨Ao36, co36, eo36⟩ := Kd.R_slice HO_6.out
                              subst eo36
                              have p382 : 0 ≤ (x9_2 : Int) := of_decide_eq_true (by first | (with_reducible assumption) | assumption)
                              have q382 : x9_2 < (t372.length : Int) := of_decide_eq_true (by first | (with_reducible assumption) | assumption)
                              obtain ⟨ad382, e382, hx382_0⟩ := Kd.at_int (Kd.R_reads' HO_6.out).2.2 x9_2 p382 q382
                              cases e382
                              replace p382 := eq_true p382
                              replace q382 := eq_true q382
                              obtain ⟨Ao37, co37, eo37⟩ := Kd.R_slice HO_7.out
                              subst eo37
                              have p383 : 0 ≤ (x9_2 : Int) := of_decide_eq_true (by first | (with_reducible assumption) | assumption)
                              have q383 : x9_2 < (t375.length : Int) := of_decide_eq_true (by first | (with_reducible assumption) | assumption)
                              obtain ⟨ad383, e383, hx383_0⟩ := Kd.at_int (Kd.R_reads' HO_7.out).2.2 x9_2 p383 q383
                              cases e383
                              replace p383 := eq_true p383
                              replace q383 := eq_true q383
                              have p384 : 0 ≤ (x9_2 : Int) := of_decide_eq_true (by first | (with_reducible assumption) | assumption)
                              have q384 : x9_2 < (t372.length : Int) := of_decide_eq_true (by first | (with_reducible assumption) | assumption)
                              obtain ⟨ad384, e384, hx384_0⟩ := Kd.at_int (Kd.R_reads' HO_6.out).2.2 x9_2 p384 q384
                              obtain rfl : ad382 = ad384 := (by injection e384)
                              replace p384 := eq_true p384
                              replace q384 := eq_true q384
                              go_wp2
                              repeat (go_quiet (fail); try go_wp2)
                              go_roundg k2
                              case measure => have := HJ8.out; have := HK2.out; omega
                              case rel => exact ⟨(wrap64 (x9_2 + 1)), (by first | rfl | (simp; done) | (simp [*]; done)), H', ⟨by have := HJ8.out; have := HK2.out; omega⟩, ⟨by (with_reducible repeat (first | apply Kd.R_alloc | apply Kd.R_drewN | apply Kd.R_drew)); exact HO_6.out⟩, ⟨by (with_reducible repeat (first | apply Kd.R_alloc | apply Kd.R_drewN | apply Kd.R_drew)); exact HO_7.out⟩, ⟨by (with_reducible repeat (first | apply Kd.R_alloc | apply Kd.R_drewN | apply Kd.R_drew)); exact HO_8.out⟩, ⟨by repeat (first | (with_reducible first | exact HB.out | apply below_alloc | apply pw_below_drewN | apply below_drew1) | exact HB.out)⟩⟩
                            · rw [if_neg c34] at H
                              have c34b0 : ((rd t372 x9_2) == 66) = false := beq_eq_false_iff_ne.mpr c34
                              (try (have c34e : ((rd t375 x9_2) == 66) = false := by (have q_ := c30b0; rw [c34b0] at q_; simpa using q_)))
                              have c34b1 : ((rd t372 x9_2) != 66) = true := bne_iff_ne.mpr c34
                              by_cases c38 : (rd t372 x9_2) = (rd t375 x9_2)
                              · rw [if_pos c38] at H
                                have c38b0 : ((rd t372 x9_2) == (rd t375 x9_2)) = true := beq_iff_eq.mpr c38
                                have c38b1 : ((rd t372 x9_2) != (rd t375 x9_2)) = false := bne_eq_false_iff_eq.mpr c38
                                clear c38
                                obtain rfl := Option.some.inj H
                                obtain ⟨Ao39, co39, eo39⟩ := Kd.R_slice HO_8.out
                                subst eo39
                                have p381 : 0 ≤ (x9_2 : Int) := of_decide_eq_true (by first | (with_reducible assumption) | assumption)
                                have q381 : x9_2 < (t378.length : Int) := of_decide_eq_true (by first | (with_reducible assumption) | assumption)
                                obtain ⟨ad381, e381, hx381_0⟩ := Kd.at_int (Kd.R_reads' HO_8.out).2.2 x9_2 p381 q381
                                cases e381
                                replace p381 := eq_true p381
                                replace q381 := eq_true q381
                                obtain ⟨Ao40, co40, eo40⟩ := Kd.R_slice HO_6.out
                                subst eo40
                                have p382 : 0 ≤ (x9_2 : Int) := of_decide_eq_true (by first | (with_reducible assumption) | assumption)
                                have q382 : x9_2 < (t372.length : Int) := of_decide_eq_true (by first | (with_reducible assumption) | assumption)
                                obtain ⟨ad382, e382, hx382_0⟩ := Kd.at_int (Kd.R_reads' HO_6.out).2.2 x9_2 p382 q382
                                cases e382
                                replace p382 := eq_true p382
                                replace q382 := eq_true q382
                                obtain ⟨Ao41, co41, eo41⟩ := Kd.R_slice HO_7.out
                                subst eo41
                                have p383 : 0 ≤ (x9_2 : Int) := of_decide_eq_true (by first | (with_reducible assumption) | assumption)
                                have q383 : x9_2 < (t375.length : Int) := of_decide_eq_true (by first | (with_reducible assumption) | assumption)
                                obtain ⟨ad383, e383, hx383_0⟩ := Kd.at_int (Kd.R_reads' HO_7.out).2.2 x9_2 p383 q383
                                cases e383
                                replace p383 := eq_true p383
                                replace q383 := eq_true q383
                                have p384 : 0 ≤ (x9_2 : Int) := of_decide_eq_true (by first | (with_reducible assumption) | assumption)
                                have q384 : x9_2 < (t372.length : Int) := of_decide_eq_true (by first | (with_reducible assumption) | assumption)
                                obtain ⟨ad384, e384, hx384_0⟩ := Kd.at_int (Kd.R_reads' HO_6.out).2.2 x9_2 p384 q384
                                obtain rfl : ad382 = ad384 := (by injection e384)
                                replace p384 := eq_true p384
                                replace q384 := eq_true q384
                                have p385 : 0 ≤ (x9_2 : Int) := of_decide_eq_true (by first | (with_reducible assumption) | assumption)
                                have q385 : x9_2 < (t372.length : Int) := of_decide_eq_true (by first | (with_reducible assumption) | assumption)
                                obtain ⟨ad385, e385, hx385_0⟩ := Kd.at_int (Kd.R_reads' HO_6.out).2.2 x9_2 p385 q385
                                obtain rfl : ad382 = ad385 := (by injection e385)
                                replace p385 := eq_true p385
                                replace q385 := eq_true q385
                                have p386 : 0 ≤ (x9_2 : Int) := of_decide_eq_true (by first | (with_reducible assumption) | assumption)
                                have q386 : x9_2 < (t375.length : Int) := of_decide_eq_true (by first | (with_reducible assumption) | assumption)
                                obtain ⟨ad386, e386, hx386_0⟩ := Kd.at_int (Kd.R_reads' HO_7.out).2.2 x9_2 p386 q386
                                obtain rfl : ad383 = ad386 := (by injection e386)
                                replace p386 := eq_true p386
                                replace q386 := eq_true q386
                                go_wp2
                                repeat (go_quiet (fail); try go_wp2)
                                go_ret
                                exact ⟨by first | rfl | (simp [errW_none, errW_some] <;> rfl) | (simp [*, errW_none, errW_some] <;> rfl), by repeat (first | (with_reducible first | exact HB.out | apply below_alloc | apply pw_below_drewN | apply below_drew1) | exact HB.out)⟩
                              · rw [if_neg c38] at H
                                have c38b0 : ((rd t372 x9_2) == (rd t375 x9_2)) = false := beq_eq_false_iff_ne.mpr c38
                                have c38b1 : ((rd t372 x9_2) != (rd t375 x9_2)) = true := bne_iff_ne.mpr c38
                                have H' := Aside0.mk H
                                clear H
                                obtain ⟨Ao42, co42, eo42⟩ := Kd.R_slice HO_8.out
                                subst eo42
                                have p381 : 0 ≤ (x9_2 : Int) := of_decide_eq_true (by first | (with_reducible assumption) | assumption)
                                have q381 : x9_2 < (t378.length : Int) := of_decide_eq_true (by first | (with_reducible assumption) | assumption)
                                obtain ⟨ad381, e381, hx381_0⟩ := Kd.at_int (Kd.R_reads' HO_8.out).2.2 x9_2 p381 q381
                                cases e381
                                replace p381 := eq_true p381
                                replace q381 := eq_true q381
                                obtain ⟨Ao43, co43, eo43⟩ := Kd.R_slice HO_6.out
                                subst eo43
                                have p382 : 0 ≤ (x9_2 : Int) := of_decide_eq_true (by first | (with_reducible assumption) | assumption)
                                have q382 : x9_2 < (t372.length : Int) := of_decide_eq_true (by first | (with_reducible assumption) | assumption)
                                obtain ⟨ad382, e382, hx382_0⟩ := Kd.at_int (Kd.R_reads' HO_6.out).2.2 x9_2 p382 q382
                                cases e382
                                replace p382 := eq_true p382
                                replace q382 := eq_true q382
                                obtain ⟨Ao44, co44, eo44⟩ := Kd.R_slice HO_7.out
                                subst eo44
                                have p383 : 0 ≤ (x9_2 : Int) := of_decide_eq_true (by first | (with_reducible assumption) | assumption)
                                have q383 : x9_2 < (t375.length : Int) := of_decide_eq_true (by first | (with_reducible assumption) | assumption)
                                obtain ⟨ad383, e383, hx383_0⟩ := Kd.at_int (Kd.R_reads' HO_7.out).2.2 x9_2 p383 q383
                                cases e383
                                replace p383 := eq_true p383
                                replace q383 := eq_true q383
                                have p384 : 0 ≤ (x9_2 : Int) := of_decide_eq_true (by first | (with_reducible assumption) | assumption)
                                have q384 : x9_2 < (t372.length : Int) := of_decide_eq_true (by first | (with_reducible assumption) | assumption)
                                obtain ⟨ad384, e384, hx384_0⟩ := Kd.at_int (Kd.R_reads' HO_6.out).2.2 x9_2 p384 q384
                                obtain rfl : ad382 = ad384 := (by injection e384)
                                replace p384 := eq_true p384
                                replace q384 := eq_true q384
                                have p385 : 0 ≤ (x9_2 : Int) := of_decide_eq_true (by first | (with_reducible assumption) | assumption)
                                have q385 : x9_2 < (t372.length : Int) := of_decide_eq_true (by first | (with_reducible assumption) | assumption)
                                obtain ⟨ad385, e385, hx385_0⟩ := Kd.at_int (Kd.R_reads' HO_6.out).2.2 x9_2 p385 q385
                                obtain rfl : ad382 = ad385 := (by injection e385)
                                replace p385 := eq_true p385
                                replace q385 := eq_true q385
                                have p386 : 0 ≤ (x9_2 : Int) := of_decide_eq_true (by first | (with_reducible assumption) | assumption)
                                have q386 : x9_2 < (t375.length : Int) := of_decide_eq_true (by first | (with_reducible assumption) | assumption)
                                obtain ⟨ad386, e386, hx386_0⟩ := Kd.at_int (Kd.R_reads' HO_7.out).2.2 x9_2 p386 q386
                                obtain rfl : ad383 = ad386 := (by injection e386)
                                replace p386 := eq_true p386
                                replace q386 := eq_true q386
                                go_wp2
                                repeat (go_quiet (fail); try go_wp2)
                                go_roundg k2
                                case measure => have := HJ8.out; have := HK2.out; omega
                                case rel => exact ⟨(wrap64 (x9_2 + 1)), (by first | rfl | (simp; done) | (simp [*]; done)), H', ⟨by have := HJ8.out; have := HK2.out; omega⟩, ⟨by (with_reducible repeat (first | apply Kd.R_alloc | apply Kd.R_drewN | apply Kd.R_drew)); exact HO_6.out⟩, ⟨by (with_reducible repeat (first | apply Kd.R_alloc | apply Kd.R_drewN | apply Kd.R_drew)); exact HO_7.out⟩, ⟨by (with_reducible repeat (first | apply Kd.R_alloc | apply Kd.R_drewN | apply Kd.R_drew)); exact HO_8.out⟩, ⟨by repeat (first | (with_reducible first | exact HB.out | apply below_alloc | apply pw_below_drewN | apply below_drew1) | exact HB.out)⟩⟩
                        · rw [if_neg c29] at H
                          exact absurd H (by simp)
                      · rw [if_neg c28] at H
                        exact absurd H (by simp)
                    · rw [if_neg c27] at H
                      have c27b0 : ((rd t378 x9_2) == 66) = false := beq_eq_false_iff_ne.mpr c27
                      have c27b1 : ((rd t378 x9_2) != 66) = true := bne_iff_ne.mpr c27
                      obtain rfl := Option.some.inj H
                      obtain ⟨Ao45, co45, eo45⟩ := Kd.R_slice HO_8.out
                      subst eo45
                      have p381 : 0 ≤ (x9_2 : Int) := of_decide_eq_true (by first | (with_reducible assumption) | assumption)
                      have q381 : x9_2 < (t378.length : Int) := of_decide_eq_true (by first | (with_reducible assumption) | assumption)
                      obtain ⟨ad381, e381, hx381_0⟩ := Kd.at_int (Kd.R_reads' HO_8.out).2.2 x9_2 p381 q381
                      cases e381
                      replace p381 := eq_true p381
                      replace q381 := eq_true q381
                      go_wp2
                      repeat (go_quiet (fail); try go_wp2)
                      go_ret
                      exact ⟨by first | rfl | (simp [errW_none, errW_some] <;> rfl) | (simp [*, errW_none, errW_some] <;> rfl), by repeat (first | (with_reducible first | exact HB.out | apply below_alloc | apply pw_below_drewN | apply below_drew1) | exact HB.out)⟩
                  · rw [if_neg c26] at H
                    exact absurd H (by simp)
                · rw [if_neg c25] at H
                  exact absurd H (by simp)
              · rw [if_neg c24] at H
                have c24b0 : decide (x9_2 < (l1.length : Int)) = false := decide_eq_false c24
                clear c24
                by_cases c46 : t370 = true
                · subst c46
                  have H1 : (if 0 ≤ (wrap64 ((l1.length : Int) - 1)) then (if (wrap64 ((l1.length : Int) - 1)) < (t372.length : Int) then (if (rd t372 (wrap64 ((l1.length : Int) - 1))) = 76 then (if (wrap64 ((l1.length : Int) - 1)) < (t375.length : Int) then (some ((rd t375 (wrap64 ((l1.length : Int) - 1))) == 82)) else (none)) else (some false)) else (none)) else (none)) = some r := by rw [if_pos rfl] at H; exact H
                  clear H
                  have H := H1
                  clear H1
                  obtain ⟨ji47, hji47⟩ : ∃ j_ : Int, (wrap64 ((l1.length : Int) - 1)) = j_ := ⟨_, rfl⟩
                  replace H : (if 0 ≤ (ji47) then (if (ji47) < (t372.length : Int) then (if (rd t372 (ji47)) = 76 then (if (ji47) < (t375.length : Int) then (some ((rd t375 (ji47)) == 82)) else (none)) else (some false)) else (none)) else (none)) = some r := by first | (rw [hji47] at H; exact H) | (simp only [hji47] at H ⊢; exact H)
                  have hji47w : (IntKind.i64.wrap ((l1.length : Int) - 1)) = ji47 := (i64_w _).trans hji47
                  by_cases c48 : 0 ≤ (ji47)
                  · rw [if_pos c48] at H
                    have c48b0 : decide (0 ≤ (ji47)) = true := decide_eq_true c48
                    clear c48
                    by_cases c49 : (ji47) < (t372.length : Int)
                    · rw [if_pos c49] at H
                      have c49b0 : decide ((ji47) < (t372.length : Int)) = true := decide_eq_true c49
                      clear c49
                      by_cases c50 : (rd t372 (ji47)) = 76
                      · rw [if_pos c50] at H
                        have c50b0 : ((rd t372 (ji47)) == 76) = true := beq_iff_eq.mpr c50
                        have c50b1 : ((rd t372 (ji47)) != 76) = false := bne_eq_false_iff_eq.mpr c50
                        clear c50
                        by_cases c51 : (ji47) < (t375.length : Int)
                        · rw [if_pos c51] at H
                          have c51b0 : decide ((ji47) < (t375.length : Int)) = true := decide_eq_true c51
                          clear c51
                          obtain rfl := Option.some.inj H
                          obtain ⟨Ao52, co52, eo52⟩ := Kd.R_slice HO_6.out
                          subst eo52
                          have p387 : 0 ≤ ((ji47) : Int) := of_decide_eq_true (by first | (with_reducible assumption) | assumption)
                          have q387 : (ji47) < (t372.length : Int) := of_decide_eq_true (by first | (with_reducible assumption) | assumption)
                          obtain ⟨ad387, e387, hx387_0⟩ := Kd.at_int (Kd.R_reads' HO_6.out).2.2 (ji47) p387 q387
                          cases e387
                          replace p387 := eq_true p387
                          replace q387 := eq_true q387
                          obtain ⟨Ao53, co53, eo53⟩ := Kd.R_slice HO_7.out
                          subst eo53
                          have p388 : 0 ≤ ((ji47) : Int) := of_decide_eq_true (by first | (with_reducible assumption) | assumption)
                          have q388 : (ji47) < (t375.length : Int) := of_decide_eq_true (by first | (with_reducible assumption) | assumption)
                          obtain ⟨ad388, e388, hx388_0⟩ := Kd.at_int (Kd.R_reads' HO_7.out).2.2 (ji47) p388 q388
                          cases e388
                          replace p388 := eq_true p388
                          replace q388 := eq_true q388
                          go_wp2
                          repeat (go_quiet (fail); try go_wp2)
                          go_ret
                          exact ⟨by first | rfl | (simp [errW_none, errW_some] <;> rfl) | (simp only [← hji47]; first | rfl | (simp [errW_none, errW_some] <;> rfl)) | (simp [*, errW_none, errW_some] <;> rfl), by repeat (first | (with_reducible first | exact HB.out | apply below_alloc | apply pw_below_drewN | apply below_drew1) | exact HB.out)⟩
                        · rw [if_neg c51] at H
                          exact absurd H (by simp)
                      · rw [if_neg c50] at H
                        have c50b0 : ((rd t372 (ji47)) == 76) = false := beq_eq_false_iff_ne.mpr c50
                        have c50b1 : ((rd t372 (ji47)) != 76) = true := bne_iff_ne.mpr c50
                        obtain rfl := Option.some.inj H
                        obtain ⟨Ao54, co54, eo54⟩ := Kd.R_slice HO_6.out
                        subst eo54
                        have p387 : 0 ≤ ((ji47) : Int) := of_decide_eq_true (by first | (with_reducible assumption) | assumption)
                        have q387 : (ji47) < (t372.length : Int) := of_decide_eq_true (by first | (with_reducible assumption) | assumption)
                        obtain ⟨ad387, e387, hx387_0⟩ := Kd.at_int (Kd.R_reads' HO_6.out).2.2 (ji47) p387 q387
                        cases e387
                        replace p387 := eq_true p387
                        replace q387 := eq_true q387
                        go_wp2
                        repeat (go_quiet (fail); try go_wp2)
                        go_ret
                        exact ⟨by first | rfl | (simp [errW_none, errW_some] <;> rfl) | (simp only [← hji47]; first | rfl | (simp [errW_none, errW_some] <;> rfl)) | (simp [*, errW_none, errW_some] <;> rfl), by repeat (first | (with_reducible first | exact HB.out | apply below_alloc | apply pw_below_drewN | apply below_drew1) | exact HB.out)⟩
                    · rw [if_neg c49] at H
                      exact absurd H (by simp)
                  · rw [if_neg c48] at H
                    exact absurd H (by simp)
                · replace c46 := Bool.eq_false_iff.mpr c46
                  subst c46
                  have H1 : (some false) = some r := by rw [if_neg (show ¬ (false = true) by decide)] at H; exact H
                  clear H
                  have H := H1
                  clear H1
                  obtain rfl := Option.some.inj H
                  go_wp2
                  repeat (go_quiet (fail); try go_wp2)
                  go_ret
                  exact ⟨by first | rfl | (simp [errW_none, errW_some] <;> rfl) | (simp [*, errW_none, errW_some] <;> rfl), by repeat (first | (with_reducible first | exact HB.out | apply below_alloc | apply pw_below_drewN | apply below_drew1) | exact HB.out)⟩
  · replace c5 := Bool.eq_false_iff.mpr c5
    subst c5
    have H1 : (some t370) = some r := by rw [if_neg (show ¬ (false = true) by decide)] at H; exact H
    clear H
    have H := H1
    clear H1
    obtain rfl := Option.some.inj H
    go_enter Try.func7, Try.ntmps7
    go_wp2_with (first | (go_at_call 10; (with_reducible refine (tammylaw08_shown.calls k  t370 _ A3.out).mono ?_); rintro e w55 ⟨rfl, hb⟩; have n0_ := Aside0.mk (below_step (by repeat (first | (with_reducible first | exact HB.out | apply below_alloc | apply pw_below_drewN | apply below_drew1) | exact HB.out)) hb); clear HB; have HB := n0_; clear n0_; (try clear hb); (try clear hb2); (try clear hk); (try clear hi)) | (go_at_call 11; (with_reducible refine (tammylaw08_of.calls k _ _ l0 _ _ l1 false _ ?side1 ?side2 ?side3 ?side4 A4.out).mono ?_); (case side1 => repeat (first | exact (Kd.C_below HR0.out HB.out) | (with_reducible refine Kd.C_alloc ?_ _) | (with_reducible refine Kd.C_drewN ?_ _) | (with_reducible refine Kd.C_drew ?_))); (case side2 => exact HC0.out); (case side3 => repeat (first | exact (Kd.C_below HR1.out HB.out) | (with_reducible refine Kd.C_alloc ?_ _) | (with_reducible refine Kd.C_drewN ?_ _) | (with_reducible refine Kd.C_drew ?_))); (case side4 => exact HC1.out); rintro e w56 ⟨rfl, hb⟩; have n0_ := Aside0.mk (below_step (by repeat (first | (with_reducible first | exact HB.out | apply below_alloc | apply pw_below_drewN | apply below_drew1) | exact HB.out)) hb); clear HB; have HB := n0_; clear n0_; (try clear hb); (try clear hb2); (try clear hk); (try clear hi)))
    repeat (go_quiet (first | (go_at_call 10; (with_reducible refine (tammylaw08_shown.calls k  t370 _ A3.out).mono ?_); rintro e w55 ⟨rfl, hb⟩; have n0_ := Aside0.mk (below_step (by repeat (first | (with_reducible first | exact HB.out | apply below_alloc | apply pw_below_drewN | apply below_drew1) | exact HB.out)) hb); clear HB; have HB := n0_; clear n0_; (try clear hb); (try clear hb2); (try clear hk); (try clear hi)) | (go_at_call 11; (with_reducible refine (tammylaw08_of.calls k _ _ l0 _ _ l1 false _ ?side1 ?side2 ?side3 ?side4 A4.out).mono ?_); (case side1 => repeat (first | exact (Kd.C_below HR0.out HB.out) | (with_reducible refine Kd.C_alloc ?_ _) | (with_reducible refine Kd.C_drewN ?_ _) | (with_reducible refine Kd.C_drew ?_))); (case side2 => exact HC0.out); (case side3 => repeat (first | exact (Kd.C_below HR1.out HB.out) | (with_reducible refine Kd.C_alloc ?_ _) | (with_reducible refine Kd.C_drewN ?_ _) | (with_reducible refine Kd.C_drew ?_))); (case side4 => exact HC1.out); rintro e w56 ⟨rfl, hb⟩; have n0_ := Aside0.mk (below_step (by repeat (first | (with_reducible first | exact HB.out | apply below_alloc | apply pw_below_drewN | apply below_drew1) | exact HB.out)) hb); clear HB; have HB := n0_; clear n0_; (try clear hb); (try clear hb2); (try clear hk); (try clear hi))); try go_wp2_with (first | (go_at_call 10; (with_reducible refine (tammylaw08_shown.calls k  t370 _ A3.out).mono ?_); rintro e w55 ⟨rfl, hb⟩; have n0_ := Aside0.mk (below_step (by repeat (first | (with_reducible first | exact HB.out | apply below_alloc | apply pw_below_drewN | apply below_drew1) | exact HB.out)) hb); clear HB; have HB := n0_; clear n0_; (try clear hb); (try clear hb2); (try clear hk); (try clear hi)) | (go_at_call 11; (with_reducible refine (tammylaw08_of.calls k _ _ l0 _ _ l1 false _ ?side1 ?side2 ?side3 ?side4 A4.out).mono ?_); (case side1 => repeat (first | exact (Kd.C_below HR0.out HB.out) | (with_reducible refine Kd.C_alloc ?_ _) | (with_reducible refine Kd.C_drewN ?_ _) | (with_reducible refine Kd.C_drew ?_))); (case side2 => exact HC0.out); (case side3 => repeat (first | exact (Kd.C_below HR1.out HB.out) | (with_reducible refine Kd.C_alloc ?_ _) | (with_reducible refine Kd.C_drewN ?_ _) | (with_reducible refine Kd.C_drew ?_))); (case side4 => exact HC1.out); rintro e w56 ⟨rfl, hb⟩; have n0_ := Aside0.mk (below_step (by repeat (first | (with_reducible first | exact HB.out | apply below_alloc | apply pw_below_drewN | apply below_drew1) | exact HB.out)) hb); clear HB; have HB := n0_; clear n0_; (try clear hb); (try clear hb2); (try clear hk); (try clear hi))))
    go_ret
    exact ⟨by first | rfl | (simp [errW_none, errW_some] <;> rfl) | (simp [*, errW_none, errW_some] <;> rfl), by repeat (first | (with_reducible first | exact HB.out | apply below_alloc | apply pw_below_drewN | apply below_drew1) | exact HB.out)⟩

-- NOT PRINTED: function 8 (tammylaw08_SideFirst)

end Go.Proofs.Ytgbickkmfjngbaa.K
