-- Laid by a program of this session (wip/gprint.py) over the kit's print of the translation; Lean checks it.
import Derived.Test.YtgbickkmfjngbaaKx0
import Derived.Test.YtgbickkmfjngbaaKx5
import Derived.Test.YtgbickkmfjngbaaKx11
namespace Go.Proofs.Ytgbickkmfjngbaa.K
open Go.RowKit Go.Proofs.YtgbickkmfjngbaaW.PrintWords Go.Proofs.YtgbickkmfjngbaaW.PrintLast Go.Proofs.YtgbickkmfjngbaaG.Words
set_option linter.unusedVariables false
set_option linter.unusedSimpArgs false

/-! ### tammylaw08_SideBoth: function 4 -/
mutual
def tammylaw08_SideBoth.j0 : Nat → List (S38) → Bool → Int → Bool → Option (Bool)
  | 0, _, _, _, _ => none
  | k + 1, x1, x5, x11, x46 => if x46 = true then (some false) else (tammylaw08_SideBoth.l0 k x1 x5 x11 0)
def tammylaw08_SideBoth.l0 : Nat → List (S38) → Bool → Int → Int → Option (Bool)
  | 0, _, _, _, _ => none
  | k + 1, x1, x5, x11, x12 => if x12 < (x1.length : Int) then (if 0 ≤ x12 then (if ((rd_T38 x1 x12).f0) > 3 then (if x11 = 0 then (some false) else (tammylaw08_SideBoth.l0 k x1 x5 x11 (wrap64 (x12 + 1)))) else (tammylaw08_SideBoth.l0 k x1 x5 x11 (wrap64 (x12 + 1)))) else (none)) else (if x5 = true then (if (x1.length : Int) > 1 then (some true) else (if 0 < (x1.length : Int) then (if ((rd_T38 x1 0).f0) = 3 then (some true) else (some (x11 == 0))) else (none))) else (some false))
end
def tammylaw08_SideBoth.f (k : Nat) (l0 : List (S52)) (l1 : List (S38)) : Option (Bool) := (tammylaw08_shown.f k).bind fun t318 => ((tammylaw08_of.f k l0 l1).bind fun t319 => (if t319 = true then ((side_Check.f k l0 l1 76).bind fun bt320 => ((side_Check.f k l0 l1 82).bind fun bt322 => ((side_Check.f k l0 l1 66).bind fun bt324 => (if bt324.2 = 0 then (if bt320.2 = 0 then (tammylaw08_SideBoth.j0 k l1 t318 bt324.2 (bt322.2 != 0)) else (tammylaw08_SideBoth.j0 k l1 t318 bt324.2 true)) else (tammylaw08_SideBoth.j0 k l1 t318 bt324.2 false))))) else (some t318)))
theorem tammylaw08_SideBoth.mono_l : ∀ k, (∀ y0 y1 y2 y3, LeO (tammylaw08_SideBoth.j0 k y0 y1 y2 y3) (tammylaw08_SideBoth.j0 (k + 1) y0 y1 y2 y3)) ∧ (∀ y0 y1 y2 y3, LeO (tammylaw08_SideBoth.l0 k y0 y1 y2 y3) (tammylaw08_SideBoth.l0 (k + 1) y0 y1 y2 y3))
  | 0 => ⟨fun _ _ _ _ r h => by simp [tammylaw08_SideBoth.j0] at h, fun _ _ _ _ r h => by simp [tammylaw08_SideBoth.l0] at h⟩
  | k + 1 => by
    obtain ⟨ih0, ih1⟩ := tammylaw08_SideBoth.mono_l k
    refine ⟨?_, ?_⟩
    · intro y0 y1 y2 y3
      unfold tammylaw08_SideBoth.j0
      repeat' first
      | (with_reducible exact ih0 _ _ _ _)
      | (with_reducible exact ih1 _ _ _ _)
      | (with_reducible exact side_Check.mono _ _ _ _)
      | (with_reducible exact tammylaw08_of.mono _ _ _)
      | (with_reducible exact tammylaw08_shown.mono _)
      | (with_reducible exact LeO.refl _)
      | (with_reducible exact LeO.none _)
      | (with_reducible refine LeO.ite ?_ ?_)
      | (with_reducible refine LeO.bind ?_ (fun _ => ?_))
      | exact ih0 _ _ _ _
      | exact ih1 _ _ _ _
      | exact side_Check.mono _ _ _ _
      | exact tammylaw08_of.mono _ _ _
      | exact tammylaw08_shown.mono _
      | exact LeO.none _
      | refine LeO.ite ?_ ?_
      | refine LeO.bind ?_ (fun _ => ?_)
    · intro y0 y1 y2 y3
      unfold tammylaw08_SideBoth.l0
      repeat' first
      | (with_reducible exact ih0 _ _ _ _)
      | (with_reducible exact ih1 _ _ _ _)
      | (with_reducible exact side_Check.mono _ _ _ _)
      | (with_reducible exact tammylaw08_of.mono _ _ _)
      | (with_reducible exact tammylaw08_shown.mono _)
      | (with_reducible exact LeO.refl _)
      | (with_reducible exact LeO.none _)
      | (with_reducible refine LeO.ite ?_ ?_)
      | (with_reducible refine LeO.bind ?_ (fun _ => ?_))
      | exact ih0 _ _ _ _
      | exact ih1 _ _ _ _
      | exact side_Check.mono _ _ _ _
      | exact tammylaw08_of.mono _ _ _
      | exact tammylaw08_shown.mono _
      | exact LeO.none _
      | refine LeO.ite ?_ ?_
      | refine LeO.bind ?_ (fun _ => ?_)
theorem tammylaw08_SideBoth.mono : ∀ a0 a1 k, LeO (tammylaw08_SideBoth.f k a0 a1) (tammylaw08_SideBoth.f (k + 1) a0 a1) := by
  intro a0 a1 k
  obtain ⟨ih0, ih1⟩ := tammylaw08_SideBoth.mono_l k
  unfold tammylaw08_SideBoth.f
  repeat' first
      | (with_reducible exact ih0 _ _ _ _)
      | (with_reducible exact ih1 _ _ _ _)
      | (with_reducible exact side_Check.mono _ _ _ _)
      | (with_reducible exact tammylaw08_of.mono _ _ _)
      | (with_reducible exact tammylaw08_shown.mono _)
      | (with_reducible exact LeO.refl _)
      | (with_reducible exact LeO.none _)
      | (with_reducible refine LeO.ite ?_ ?_)
      | (with_reducible refine LeO.bind ?_ (fun _ => ?_))
      | exact ih0 _ _ _ _
      | exact ih1 _ _ _ _
      | exact side_Check.mono _ _ _ _
      | exact tammylaw08_of.mono _ _ _
      | exact tammylaw08_shown.mono _
      | exact LeO.none _
      | refine LeO.ite ?_ ?_
      | refine LeO.bind ?_ (fun _ => ?_)
set_option maxHeartbeats 8000000 in
set_option maxRecDepth 100000 in
theorem tammylaw08_SideBoth.calls (k : Nat) (A0 : Option Addr) (c0 : Nat) (l0 : List (S52)) (A1 : Option Addr) (c1 : Nat) (l1 : List (S38)) (r : Bool) (w : World) (hr0 : Kd.C k52 w A0 l0.length l0) (hc0 : l0.length ≤ c0) (hr1 : Kd.C k38 w A1 l1.length l1) (hc1 : l1.length ≤ c1) (h : tammylaw08_SideBoth.f k l0 l1 = some r) :
    Calls Try.prog 4 #[.slice A0 l0.length c0, .slice A1 l1.length c1] w fun e w' => e = .returned (.bool r) ∧ Below w.heap.size w w' := by
  have HR0 := Aside0.mk hr0
  have HC0 := Aside0.mk hc0
  clear hr0 hc0
  have HR1 := Aside0.mk hr1
  have HC1 := Aside0.mk hc1
  clear hr1 hc1
  have HB := Aside0.mk (Below.refl w.heap.size w)
  have H : ((tammylaw08_shown.f k).bind fun t318 => ((tammylaw08_of.f k l0 l1).bind fun t319 => (if t319 = true then ((side_Check.f k l0 l1 76).bind fun bt320 => ((side_Check.f k l0 l1 82).bind fun bt322 => ((side_Check.f k l0 l1 66).bind fun bt324 => (if bt324.2 = 0 then (if bt320.2 = 0 then (tammylaw08_SideBoth.j0 k l1 t318 bt324.2 (bt322.2 != 0)) else (tammylaw08_SideBoth.j0 k l1 t318 bt324.2 true)) else (tammylaw08_SideBoth.j0 k l1 t318 bt324.2 false))))) else (some t318)))) = some r := h
  clear h
  replace H := Option.bind_eq_some_iff.mp H
  obtain ⟨t318, A30, H⟩ := H
  replace H : ((tammylaw08_of.f k l0 l1).bind fun t319 => (if t319 = true then ((side_Check.f k l0 l1 76).bind fun bt320 => ((side_Check.f k l0 l1 82).bind fun bt322 => ((side_Check.f k l0 l1 66).bind fun bt324 => (if bt324.2 = 0 then (if bt320.2 = 0 then (tammylaw08_SideBoth.j0 k l1 t318 bt324.2 (bt322.2 != 0)) else (tammylaw08_SideBoth.j0 k l1 t318 bt324.2 true)) else (tammylaw08_SideBoth.j0 k l1 t318 bt324.2 false))))) else (some t318))) = some r := H
  have A3 := Aside0.mk A30
  clear A30
  replace H := Option.bind_eq_some_iff.mp H
  obtain ⟨t319, A40, H⟩ := H
  replace H : (if t319 = true then ((side_Check.f k l0 l1 76).bind fun bt320 => ((side_Check.f k l0 l1 82).bind fun bt322 => ((side_Check.f k l0 l1 66).bind fun bt324 => (if bt324.2 = 0 then (if bt320.2 = 0 then (tammylaw08_SideBoth.j0 k l1 t318 bt324.2 (bt322.2 != 0)) else (tammylaw08_SideBoth.j0 k l1 t318 bt324.2 true)) else (tammylaw08_SideBoth.j0 k l1 t318 bt324.2 false))))) else (some t318)) = some r := H
  have A4 := Aside0.mk A40
  clear A40
  by_cases c5 : t319 = true
  · subst c5
    have H1 : ((side_Check.f k l0 l1 76).bind fun bt320 => ((side_Check.f k l0 l1 82).bind fun bt322 => ((side_Check.f k l0 l1 66).bind fun bt324 => (if bt324.2 = 0 then (if bt320.2 = 0 then (tammylaw08_SideBoth.j0 k l1 t318 bt324.2 (bt322.2 != 0)) else (tammylaw08_SideBoth.j0 k l1 t318 bt324.2 true)) else (tammylaw08_SideBoth.j0 k l1 t318 bt324.2 false))))) = some r := by rw [if_pos rfl] at H; exact H
    clear H
    have H := H1
    clear H1
    replace H := Option.bind_eq_some_iff.mp H
    obtain ⟨⟨t320, t321⟩, A60, H⟩ := H
    replace H : ((side_Check.f k l0 l1 82).bind fun bt322 => ((side_Check.f k l0 l1 66).bind fun bt324 => (if bt324.2 = 0 then (if t321 = 0 then (tammylaw08_SideBoth.j0 k l1 t318 bt324.2 (bt322.2 != 0)) else (tammylaw08_SideBoth.j0 k l1 t318 bt324.2 true)) else (tammylaw08_SideBoth.j0 k l1 t318 bt324.2 false)))) = some r := H
    have A6 := Aside0.mk A60
    clear A60
    replace H := Option.bind_eq_some_iff.mp H
    obtain ⟨⟨t322, t323⟩, A70, H⟩ := H
    replace H : ((side_Check.f k l0 l1 66).bind fun bt324 => (if bt324.2 = 0 then (if t321 = 0 then (tammylaw08_SideBoth.j0 k l1 t318 bt324.2 (t323 != 0)) else (tammylaw08_SideBoth.j0 k l1 t318 bt324.2 true)) else (tammylaw08_SideBoth.j0 k l1 t318 bt324.2 false))) = some r := H
    have A7 := Aside0.mk A70
    clear A70
    replace H := Option.bind_eq_some_iff.mp H
    obtain ⟨⟨t324, t325⟩, A80, H⟩ := H
    replace H : (if t325 = 0 then (if t321 = 0 then (tammylaw08_SideBoth.j0 k l1 t318 t325 (t323 != 0)) else (tammylaw08_SideBoth.j0 k l1 t318 t325 true)) else (tammylaw08_SideBoth.j0 k l1 t318 t325 false)) = some r := H
    have A8 := Aside0.mk A80
    clear A80
    have HC9 := Aside0.mk H
    clear H
    go_enter Try.func4, Try.ntmps4
    go_upto_region 7 with (first | ((with_reducible refine gate_callee (f := 10) rfl ?_); refine goesL_ (some 13) rfl rfl Try.func10 (by kernel_rfl) rfl #[] rfl (by (try simp only [List.map_toArray, List.map_cons, List.map_nil]); first | done | rfl | (simp only [List.length_drop, List.length_take]; rfl)) ?_; (with_reducible refine (tammylaw08_shown.calls k  t318 _ A3.out).mono ?_); rintro e w10 ⟨rfl, hb⟩; refine ⟨_, rfl, ?_⟩; have n0_ := Aside0.mk (below_step (by repeat (first | (with_reducible first | exact HB.out | apply below_alloc | apply pw_below_drewN | apply below_drew1) | exact HB.out)) hb); clear HB; have HB := n0_; clear n0_; (try clear hb); (try clear hb2); (try clear hk); (try clear hi)) | ((with_reducible refine gate_callee (f := 11) rfl ?_); refine goesL_ (some 16) rfl rfl Try.func11 (by kernel_rfl) rfl #[.slice A0 l0.length c0, .slice A1 l1.length c1] rfl (by (try simp only [List.map_toArray, List.map_cons, List.map_nil]); first | done | rfl | (simp only [List.length_drop, List.length_take]; rfl)) ?_; (with_reducible refine (tammylaw08_of.calls k _ _ l0 _ _ l1 true _ ?side1 ?side2 ?side3 ?side4 A4.out).mono ?_); (case side1 => repeat (first | exact (Kd.C_below HR0.out HB.out) | (with_reducible refine Kd.C_alloc ?_ _) | (with_reducible refine Kd.C_drewN ?_ _) | (with_reducible refine Kd.C_drew ?_))); (case side2 => exact HC0.out); (case side3 => repeat (first | exact (Kd.C_below HR1.out HB.out) | (with_reducible refine Kd.C_alloc ?_ _) | (with_reducible refine Kd.C_drewN ?_ _) | (with_reducible refine Kd.C_drew ?_))); (case side4 => exact HC1.out); rintro e w11 ⟨rfl, hb⟩; refine ⟨_, rfl, ?_⟩; have n0_ := Aside0.mk (below_step (by repeat (first | (with_reducible first | exact HB.out | apply below_alloc | apply pw_below_drewN | apply below_drew1) | exact HB.out)) hb); clear HB; have HB := n0_; clear n0_; (try clear hb); (try clear hb2); (try clear hk); (try clear hi)) | ((with_reducible refine gate_callee (f := 12) rfl ?_); refine goesL_ (some 22) rfl rfl Try.func12 (by kernel_rfl) rfl #[.slice A0 l0.length c0, .slice A1 l1.length c1, .int .u8 76] rfl (by (try simp only [List.map_toArray, List.map_cons, List.map_nil]); first | done | rfl | (simp only [List.length_drop, List.length_take]; rfl)) ?_; (with_reducible refine (side_Check.calls k _ _ l0 _ _ l1 76 t320 t321 _ ?side1 ?side2 ?side3 ?side4 A6.out).mono ?_); (case side1 => repeat (first | exact (Kd.C_below HR0.out HB.out) | (with_reducible refine Kd.C_alloc ?_ _) | (with_reducible refine Kd.C_drewN ?_ _) | (with_reducible refine Kd.C_drew ?_))); (case side2 => exact HC0.out); (case side3 => repeat (first | exact (Kd.C_below HR1.out HB.out) | (with_reducible refine Kd.C_alloc ?_ _) | (with_reducible refine Kd.C_drewN ?_ _) | (with_reducible refine Kd.C_drew ?_))); (case side4 => exact HC1.out); rintro e w12 ⟨rfl, hb⟩; refine ⟨_, rfl, ?_⟩; have n0_ := Aside0.mk (below_step (by repeat (first | (with_reducible first | exact HB.out | apply below_alloc | apply pw_below_drewN | apply below_drew1) | exact HB.out)) hb); clear HB; have HB := n0_; clear n0_; (try clear hb); (try clear hb2); (try clear hk); (try clear hi)) | ((with_reducible refine gate_callee (f := 12) rfl ?_); refine goesL_ (some 28) rfl rfl Try.func12 (by kernel_rfl) rfl #[.slice A0 l0.length c0, .slice A1 l1.length c1, .int .u8 82] rfl (by (try simp only [List.map_toArray, List.map_cons, List.map_nil]); first | done | rfl | (simp only [List.length_drop, List.length_take]; rfl)) ?_; (with_reducible refine (side_Check.calls k _ _ l0 _ _ l1 82 t322 t323 _ ?side1 ?side2 ?side3 ?side4 A7.out).mono ?_); (case side1 => repeat (first | exact (Kd.C_below HR0.out HB.out) | (with_reducible refine Kd.C_alloc ?_ _) | (with_reducible refine Kd.C_drewN ?_ _) | (with_reducible refine Kd.C_drew ?_))); (case side2 => exact HC0.out); (case side3 => repeat (first | exact (Kd.C_below HR1.out HB.out) | (with_reducible refine Kd.C_alloc ?_ _) | (with_reducible refine Kd.C_drewN ?_ _) | (with_reducible refine Kd.C_drew ?_))); (case side4 => exact HC1.out); rintro e w13 ⟨rfl, hb⟩; refine ⟨_, rfl, ?_⟩; have n0_ := Aside0.mk (below_step (by repeat (first | (with_reducible first | exact HB.out | apply below_alloc | apply pw_below_drewN | apply below_drew1) | exact HB.out)) hb); clear HB; have HB := n0_; clear n0_; (try clear hb); (try clear hb2); (try clear hk); (try clear hi)) | ((with_reducible refine gate_callee (f := 12) rfl ?_); refine goesL_ (some 34) rfl rfl Try.func12 (by kernel_rfl) rfl #[.slice A0 l0.length c0, .slice A1 l1.length c1, .int .u8 66] rfl (by (try simp only [List.map_toArray, List.map_cons, List.map_nil]); first | done | rfl | (simp only [List.length_drop, List.length_take]; rfl)) ?_; (with_reducible refine (side_Check.calls k _ _ l0 _ _ l1 66 t324 t325 _ ?side1 ?side2 ?side3 ?side4 A8.out).mono ?_); (case side1 => repeat (first | exact (Kd.C_below HR0.out HB.out) | (with_reducible refine Kd.C_alloc ?_ _) | (with_reducible refine Kd.C_drewN ?_ _) | (with_reducible refine Kd.C_drew ?_))); (case side2 => exact HC0.out); (case side3 => repeat (first | exact (Kd.C_below HR1.out HB.out) | (with_reducible refine Kd.C_alloc ?_ _) | (with_reducible refine Kd.C_drewN ?_ _) | (with_reducible refine Kd.C_drew ?_))); (case side4 => exact HC1.out); rintro e w14 ⟨rfl, hb⟩; refine ⟨_, rfl, ?_⟩; have n0_ := Aside0.mk (below_step (by repeat (first | (with_reducible first | exact HB.out | apply below_alloc | apply pw_below_drewN | apply below_drew1) | exact HB.out)) hb); clear HB; have HB := n0_; clear n0_; (try clear hb); (try clear hb2); (try clear hk); (try clear hi)))
    (try simp only [Act.put, List.setIfInBounds_toArray, List.set_cons_zero, List.set_cons_succ])
    go_cut [46] (fun v46 wc => ∃ (kq : Nat) (x46_8 : Bool), v46 = .bool x46_8 ∧ Aside0 (tammylaw08_SideBoth.j0 kq l1 t318 t325 x46_8 = some r) ∧ Aside0 (kq ≤ k) ∧ Aside0 (Below w.heap.size w wc))
    case first =>
      have H := HC9.out
      clear HC9
      by_cases c15 : t325 = 0
      · rw [if_pos c15] at H
        have c15b0 : (t325 == 0) = true := beq_iff_eq.mpr c15
        have c15b1 : (t325 != 0) = false := bne_eq_false_iff_eq.mpr c15
        clear c15
        (first | rw [c15b0] | (simp only [i64_w, i32_w]; rw [c15b0]) | skip)
        by_cases c16 : t321 = 0
        · rw [if_pos c16] at H
          have c16b0 : (t321 == 0) = true := beq_iff_eq.mpr c16
          have c16b1 : (t321 != 0) = false := bne_eq_false_iff_eq.mpr c16
          clear c16
          have H' := Aside0.mk H
          clear H
          go_wp2
          go_meet
          case rel => exact ⟨_, ((t323 != 0)), (by first | rfl | (simp; done) | (simp [*]; done)), H', ⟨by first | omega | exact Nat.le_refl _⟩, ⟨by repeat (first | (with_reducible first | exact HB.out | apply below_alloc | apply pw_below_drewN | apply below_drew1) | exact HB.out)⟩⟩
        · rw [if_neg c16] at H
          have c16b0 : (t321 == 0) = false := beq_eq_false_iff_ne.mpr c16
          have c16b1 : (t321 != 0) = true := bne_iff_ne.mpr c16
          have H' := Aside0.mk H
          clear H
          go_wp2
          go_meet
          case rel => exact ⟨_, (true), (by first | rfl | (simp; done) | (simp [*]; done)), H', ⟨by first | omega | exact Nat.le_refl _⟩, ⟨by repeat (first | (with_reducible first | exact HB.out | apply below_alloc | apply pw_below_drewN | apply below_drew1) | exact HB.out)⟩⟩
      · rw [if_neg c15] at H
        have c15b0 : (t325 == 0) = false := beq_eq_false_iff_ne.mpr c15
        have c15b1 : (t325 != 0) = true := bne_iff_ne.mpr c15
        (first | rw [c15b0] | (simp only [i64_w, i32_w]; rw [c15b0]) | skip)
        have H' := Aside0.mk H
        clear H
        go_wp2
        go_meet
        case rel => exact ⟨_, (false), (by first | rfl | (simp; done) | (simp [*]; done)), H', ⟨by first | omega | exact Nat.le_refl _⟩, ⟨by repeat (first | (with_reducible first | exact HB.out | apply below_alloc | apply pw_below_drewN | apply below_drew1) | exact HB.out)⟩⟩
    case rest =>
      clear HC9
      try clear c1
      try clear p2
      try clear c4
      try clear c5
      try clear c10
      try clear c11
      try clear c12
      try clear c15
      try clear c15b0
      try clear c15b1
      try clear c16
      try clear c16b0
      try clear c16b1
      obtain ⟨kq, x46_8, rfl, HA, HJ8, HB⟩ := hcut
      cases kq with
      | zero => exact absurd HA.out (by simp [tammylaw08_SideBoth.j0])
      | succ kj8 =>
        have H := HA.out
        clear HA
        simp only [tammylaw08_SideBoth.j0] at H
        by_cases c17 : x46_8 = true
        · subst c17
          have H1 : (some false) = some r := by rw [if_pos rfl] at H; exact H
          clear H
          have H := H1
          clear H1
          obtain rfl := Option.some.inj H
          go_wp2
          go_ret
          exact ⟨by first | rfl | (simp [errW_none, errW_some] <;> rfl) | (simp [*, errW_none, errW_some] <;> rfl), by repeat (first | (with_reducible first | exact HB.out | apply below_alloc | apply pw_below_drewN | apply below_drew1) | exact HB.out)⟩
        · replace c17 := Bool.eq_false_iff.mpr c17
          subst c17
          have H1 : (tammylaw08_SideBoth.l0 kj8 l1 t318 t325 0) = some r := by rw [if_neg (show ¬ (false = true) by decide)] at H; exact H
          clear H
          have H := H1
          clear H1
          have H' := Aside0.mk H
          clear H
          go_wp2
          go_loopg [12] kj8 (fun kq v12 w' => ∃ (x12_2 : Int), v12 = .int .i64 x12_2 ∧ Aside0 (tammylaw08_SideBoth.l0 kq l1 t318 t325 x12_2 = some r) ∧ Aside0 (kq ≤ kj8) ∧ Aside0 (Below w.heap.size w w'))
          case atStart => exact ⟨(0), (by first | rfl | (simp; done) | (simp [*]; done)), H', ⟨Nat.le_refl _⟩, ⟨by repeat (first | (with_reducible first | exact HB.out | apply below_alloc | apply pw_below_drewN | apply below_drew1) | exact HB.out)⟩⟩
          case round =>
            clear H'
            try clear c1
            try clear p2
            try clear c4
            try clear c5
            try clear c10
            try clear c11
            try clear c12
            try clear c15
            try clear c15b0
            try clear c15b1
            try clear c16
            try clear c16b0
            try clear c16b1
            try clear c17
            try clear p2
            obtain ⟨x12_2, rfl, HA, HK2, HB⟩ := hrel
            cases gk with
            | zero => exact absurd HA.out (by simp [tammylaw08_SideBoth.l0])
            | succ k2 =>
              have H := HA.out
              clear HA
              simp only [tammylaw08_SideBoth.l0] at H
              by_cases c18 : x12_2 < (l1.length : Int)
              · rw [if_pos c18] at H
                have c18b0 : decide (x12_2 < (l1.length : Int)) = true := decide_eq_true c18
                clear c18
                by_cases c19 : 0 ≤ x12_2
                · rw [if_pos c19] at H
                  have c19b0 : decide (0 ≤ x12_2) = true := decide_eq_true c19
                  clear c19
                  by_cases c20 : ((rd_T38 l1 x12_2).f0) > 3
                  · rw [if_pos c20] at H
                    have c20b0 : decide (3 < ((rd_T38 l1 x12_2).f0)) = true := decide_eq_true c20
                    clear c20
                    by_cases c21 : t325 = 0
                    · rw [if_pos c21] at H
                      have c21b0 : (t325 == 0) = true := beq_iff_eq.mpr c21
                      have c21b1 : (t325 != 0) = false := bne_eq_false_iff_eq.mpr c21
                      clear c21
                      obtain rfl := Option.some.inj H
                      have p326 : 0 ≤ (x12_2 : Int) := of_decide_eq_true (by first | (with_reducible assumption) | assumption)
                      have q326 : x12_2 < (l1.length : Int) := of_decide_eq_true (by first | (with_reducible assumption) | assumption)
                      obtain ⟨ad326, e326, hx326_0, hx326_1, hx326_2⟩ := at_T38 HR1.out x12_2 p326 q326
                      cases e326
                      replace hx326_0 := (HB.out.cell (World.block_lt_of_cell? w _ hx326_0)).trans hx326_0
                      replace hx326_1 := (HB.out.cell (World.block_lt_of_cell? w _ hx326_1)).trans hx326_1
                      replace hx326_2 := (HB.out.cell (World.block_lt_of_cell? w _ hx326_2)).trans hx326_2
                      replace p326 := eq_true p326
                      replace q326 := eq_true q326
                      go_wp2
                      go_ret
                      exact ⟨by first | rfl | (simp [errW_none, errW_some] <;> rfl) | (simp [*, errW_none, errW_some] <;> rfl), by repeat (first | (with_reducible first | exact HB.out | apply below_alloc | apply pw_below_drewN | apply below_drew1) | exact HB.out)⟩
                    · rw [if_neg c21] at H
                      have c21b0 : (t325 == 0) = false := beq_eq_false_iff_ne.mpr c21
                      have c21b1 : (t325 != 0) = true := bne_iff_ne.mpr c21
                      have H' := Aside0.mk H
                      clear H
                      have p326 : 0 ≤ (x12_2 : Int) := of_decide_eq_true (by first | (with_reducible assumption) | assumption)
                      have q326 : x12_2 < (l1.length : Int) := of_decide_eq_true (by first | (with_reducible assumption) | assumption)
                      obtain ⟨ad326, e326, hx326_0, hx326_1, hx326_2⟩ := at_T38 HR1.out x12_2 p326 q326
                      cases e326
                      replace hx326_0 := (HB.out.cell (World.block_lt_of_cell? w _ hx326_0)).trans hx326_0
                      replace hx326_1 := (HB.out.cell (World.block_lt_of_cell? w _ hx326_1)).trans hx326_1
                      replace hx326_2 := (HB.out.cell (World.block_lt_of_cell? w _ hx326_2)).trans hx326_2
                      replace p326 := eq_true p326
                      replace q326 := eq_true q326
                      go_wp2
                      go_roundg k2
                      case measure => have := HJ8.out; have := HK2.out; omega
                      case rel => exact ⟨(wrap64 (x12_2 + 1)), (by first | rfl | (simp; done) | (simp [*]; done)), H', ⟨by have := HJ8.out; have := HK2.out; omega⟩, ⟨by repeat (first | (with_reducible first | exact HB.out | apply below_alloc | apply pw_below_drewN | apply below_drew1) | exact HB.out)⟩⟩
                  · rw [if_neg c20] at H
                    have c20b0 : decide (3 < ((rd_T38 l1 x12_2).f0)) = false := decide_eq_false c20
                    clear c20
                    have H' := Aside0.mk H
                    clear H
                    have p326 : 0 ≤ (x12_2 : Int) := of_decide_eq_true (by first | (with_reducible assumption) | assumption)
                    have q326 : x12_2 < (l1.length : Int) := of_decide_eq_true (by first | (with_reducible assumption) | assumption)
                    obtain ⟨ad326, e326, hx326_0, hx326_1, hx326_2⟩ := at_T38 HR1.out x12_2 p326 q326
                    cases e326
                    replace hx326_0 := (HB.out.cell (World.block_lt_of_cell? w _ hx326_0)).trans hx326_0
                    replace hx326_1 := (HB.out.cell (World.block_lt_of_cell? w _ hx326_1)).trans hx326_1
                    replace hx326_2 := (HB.out.cell (World.block_lt_of_cell? w _ hx326_2)).trans hx326_2
                    replace p326 := eq_true p326
                    replace q326 := eq_true q326
                    go_wp2
                    go_roundg k2
                    case measure => have := HJ8.out; have := HK2.out; omega
                    case rel => exact ⟨(wrap64 (x12_2 + 1)), (by first | rfl | (simp; done) | (simp [*]; done)), H', ⟨by have := HJ8.out; have := HK2.out; omega⟩, ⟨by repeat (first | (with_reducible first | exact HB.out | apply below_alloc | apply pw_below_drewN | apply below_drew1) | exact HB.out)⟩⟩
                · rw [if_neg c19] at H
                  exact absurd H (by simp)
              · rw [if_neg c18] at H
                have c18b0 : decide (x12_2 < (l1.length : Int)) = false := decide_eq_false c18
                clear c18
                by_cases c22 : t318 = true
                · subst c22
                  have H1 : (if (l1.length : Int) > 1 then (some true) else (if 0 < (l1.length : Int) then (if ((rd_T38 l1 0).f0) = 3 then (some true) else (some (t325 == 0))) else (none))) = some r := by rw [if_pos rfl] at H; exact H
                  clear H
                  have H := H1
                  clear H1
                  by_cases c23 : (l1.length : Int) > 1
                  · rw [if_pos c23] at H
                    have c23b0 : decide (1 < (l1.length : Int)) = true := decide_eq_true c23
                    have c23b1 : decide (1 < l1.length) = true := decide_eq_true (by omega)
                    clear c23
                    obtain rfl := Option.some.inj H
                    go_wp2
                    go_ret
                    exact ⟨by first | rfl | (simp [errW_none, errW_some] <;> rfl) | (simp [*, errW_none, errW_some] <;> rfl), by repeat (first | (with_reducible first | exact HB.out | apply below_alloc | apply pw_below_drewN | apply below_drew1) | exact HB.out)⟩
                  · rw [if_neg c23] at H
                    have c23b0 : decide (1 < (l1.length : Int)) = false := decide_eq_false c23
                    have c23b1 : decide (1 < l1.length) = false := decide_eq_false (by omega)
                    clear c23
                    by_cases c24 : 0 < (l1.length : Int)
                    · rw [if_pos c24] at H
                      have c24b0 : decide (0 < (l1.length : Int)) = true := decide_eq_true c24
                      have c24b1 : decide (0 < l1.length) = true := decide_eq_true (by omega)
                      clear c24
                      by_cases c25 : ((rd_T38 l1 0).f0) = 3
                      · rw [if_pos c25] at H
                        have c25b0 : (((rd_T38 l1 0).f0) == 3) = true := beq_iff_eq.mpr c25
                        have c25b1 : (((rd_T38 l1 0).f0) != 3) = false := bne_eq_false_iff_eq.mpr c25
                        clear c25
                        obtain rfl := Option.some.inj H
                        have p327 : 0 ≤ (0 : Int) := (by omega)
                        have q327 : 0 < (l1.length : Int) := of_decide_eq_true (by first | (with_reducible assumption) | assumption)
                        obtain ⟨ad327, e327, hx327_0, hx327_1, hx327_2⟩ := at_T38 HR1.out 0 p327 q327
                        cases e327
                        have qi327 : (0 < l1.length) = True := eq_true (by omega)
                        (try rw [show ((0 : Int)).toNat = 0 from rfl] at hx327_0)
                        (try rw [show 0 * 3 = 0 from rfl] at hx327_0)
                        (try rw [Addr.add_zero'] at hx327_0)
                        (try rw [show ((0 : Int)).toNat = 0 from rfl] at hx327_1)
                        (try rw [show 0 * 3 = 0 from rfl] at hx327_1)
                        (try rw [Addr.add_zero'] at hx327_1)
                        (try rw [show ((0 : Int)).toNat = 0 from rfl] at hx327_2)
                        (try rw [show 0 * 3 = 0 from rfl] at hx327_2)
                        (try rw [Addr.add_zero'] at hx327_2)
                        replace hx327_0 := (HB.out.cell (World.block_lt_of_cell? w _ hx327_0)).trans hx327_0
                        replace hx327_1 := (HB.out.cell (World.block_lt_of_cell? w _ hx327_1)).trans hx327_1
                        replace hx327_2 := (HB.out.cell (World.block_lt_of_cell? w _ hx327_2)).trans hx327_2
                        replace p327 := eq_true p327
                        replace q327 := eq_true q327
                        go_wp2
                        go_ret
                        exact ⟨by first | rfl | (simp [errW_none, errW_some] <;> rfl) | (simp [*, errW_none, errW_some] <;> rfl), by repeat (first | (with_reducible first | exact HB.out | apply below_alloc | apply pw_below_drewN | apply below_drew1) | exact HB.out)⟩
                      · rw [if_neg c25] at H
                        have c25b0 : (((rd_T38 l1 0).f0) == 3) = false := beq_eq_false_iff_ne.mpr c25
                        have c25b1 : (((rd_T38 l1 0).f0) != 3) = true := bne_iff_ne.mpr c25
                        obtain rfl := Option.some.inj H
                        have p327 : 0 ≤ (0 : Int) := (by omega)
                        have q327 : 0 < (l1.length : Int) := of_decide_eq_true (by first | (with_reducible assumption) | assumption)
                        obtain ⟨ad327, e327, hx327_0, hx327_1, hx327_2⟩ := at_T38 HR1.out 0 p327 q327
                        cases e327
                        have qi327 : (0 < l1.length) = True := eq_true (by omega)
                        (try rw [show ((0 : Int)).toNat = 0 from rfl] at hx327_0)
                        (try rw [show 0 * 3 = 0 from rfl] at hx327_0)
                        (try rw [Addr.add_zero'] at hx327_0)
                        (try rw [show ((0 : Int)).toNat = 0 from rfl] at hx327_1)
                        (try rw [show 0 * 3 = 0 from rfl] at hx327_1)
                        (try rw [Addr.add_zero'] at hx327_1)
                        (try rw [show ((0 : Int)).toNat = 0 from rfl] at hx327_2)
                        (try rw [show 0 * 3 = 0 from rfl] at hx327_2)
                        (try rw [Addr.add_zero'] at hx327_2)
                        replace hx327_0 := (HB.out.cell (World.block_lt_of_cell? w _ hx327_0)).trans hx327_0
                        replace hx327_1 := (HB.out.cell (World.block_lt_of_cell? w _ hx327_1)).trans hx327_1
                        replace hx327_2 := (HB.out.cell (World.block_lt_of_cell? w _ hx327_2)).trans hx327_2
                        replace p327 := eq_true p327
                        replace q327 := eq_true q327
                        go_wp2
                        go_ret
                        exact ⟨by first | rfl | (simp [errW_none, errW_some] <;> rfl) | (simp [*, errW_none, errW_some] <;> rfl), by repeat (first | (with_reducible first | exact HB.out | apply below_alloc | apply pw_below_drewN | apply below_drew1) | exact HB.out)⟩
                    · rw [if_neg c24] at H
                      exact absurd H (by simp)
                · replace c22 := Bool.eq_false_iff.mpr c22
                  subst c22
                  have H1 : (some false) = some r := by rw [if_neg (show ¬ (false = true) by decide)] at H; exact H
                  clear H
                  have H := H1
                  clear H1
                  obtain rfl := Option.some.inj H
                  go_wp2
                  go_ret
                  exact ⟨by first | rfl | (simp [errW_none, errW_some] <;> rfl) | (simp [*, errW_none, errW_some] <;> rfl), by repeat (first | (with_reducible first | exact HB.out | apply below_alloc | apply pw_below_drewN | apply below_drew1) | exact HB.out)⟩
  · replace c5 := Bool.eq_false_iff.mpr c5
    subst c5
    have H1 : (some t318) = some r := by rw [if_neg (show ¬ (false = true) by decide)] at H; exact H
    clear H
    have H := H1
    clear H1
    obtain rfl := Option.some.inj H
    go_enter Try.func4, Try.ntmps4
    go_wp2_with (first | ((with_reducible refine gate_callee (f := 10) rfl ?_); refine goesL_ (some 13) rfl rfl Try.func10 (by kernel_rfl) rfl #[] rfl (by (try simp only [List.map_toArray, List.map_cons, List.map_nil]); first | done | rfl | (simp only [List.length_drop, List.length_take]; rfl)) ?_; (with_reducible refine (tammylaw08_shown.calls k  t318 _ A3.out).mono ?_); rintro e w26 ⟨rfl, hb⟩; refine ⟨_, rfl, ?_⟩; have n0_ := Aside0.mk (below_step (by repeat (first | (with_reducible first | exact HB.out | apply below_alloc | apply pw_below_drewN | apply below_drew1) | exact HB.out)) hb); clear HB; have HB := n0_; clear n0_; (try clear hb); (try clear hb2); (try clear hk); (try clear hi)) | ((with_reducible refine gate_callee (f := 11) rfl ?_); refine goesL_ (some 16) rfl rfl Try.func11 (by kernel_rfl) rfl #[.slice A0 l0.length c0, .slice A1 l1.length c1] rfl (by (try simp only [List.map_toArray, List.map_cons, List.map_nil]); first | done | rfl | (simp only [List.length_drop, List.length_take]; rfl)) ?_; (with_reducible refine (tammylaw08_of.calls k _ _ l0 _ _ l1 false _ ?side1 ?side2 ?side3 ?side4 A4.out).mono ?_); (case side1 => repeat (first | exact (Kd.C_below HR0.out HB.out) | (with_reducible refine Kd.C_alloc ?_ _) | (with_reducible refine Kd.C_drewN ?_ _) | (with_reducible refine Kd.C_drew ?_))); (case side2 => exact HC0.out); (case side3 => repeat (first | exact (Kd.C_below HR1.out HB.out) | (with_reducible refine Kd.C_alloc ?_ _) | (with_reducible refine Kd.C_drewN ?_ _) | (with_reducible refine Kd.C_drew ?_))); (case side4 => exact HC1.out); rintro e w27 ⟨rfl, hb⟩; refine ⟨_, rfl, ?_⟩; have n0_ := Aside0.mk (below_step (by repeat (first | (with_reducible first | exact HB.out | apply below_alloc | apply pw_below_drewN | apply below_drew1) | exact HB.out)) hb); clear HB; have HB := n0_; clear n0_; (try clear hb); (try clear hb2); (try clear hk); (try clear hi)))
    go_ret
    exact ⟨by first | rfl | (simp [errW_none, errW_some] <;> rfl) | (simp [*, errW_none, errW_some] <;> rfl), by repeat (first | (with_reducible first | exact HB.out | apply below_alloc | apply pw_below_drewN | apply below_drew1) | exact HB.out)⟩

end Go.Proofs.Ytgbickkmfjngbaa.K
