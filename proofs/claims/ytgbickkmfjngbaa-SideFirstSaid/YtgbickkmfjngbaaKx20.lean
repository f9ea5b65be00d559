-- Laid by a program of this session (wip/gprint.py) over the kit's print of the translation; Lean checks it.
import Derived.Test.YtgbickkmfjngbaaGx
import Derived.Test.YtgbickkmfjngbaaKx0
import Derived.Test.YtgbickkmfjngbaaKx5
import Derived.Test.YtgbickkmfjngbaaKx7
import Derived.Test.YtgbickkmfjngbaaKx11
import Derived.Test.YtgbickkmfjngbaaGe
namespace Go.Proofs.Ytgbickkmfjngbaa.K
open Go.RowKit Go.Proofs.YtgbickkmfjngbaaW.PrintWords Go.Proofs.YtgbickkmfjngbaaW.PrintLast Go.Proofs.YtgbickkmfjngbaaG.Words
set_option linter.unusedVariables false
set_option linter.unusedSimpArgs false

/-! ### tammylaw08_SideFirst: function 8 -/
mutual
def tammylaw08_SideFirst.j0 : Nat → List (S52) → List (S38) → Int → Bool → Int → Int → List Int → Bool → Option (Bool)
  | 0, _, _, _, _, _, _, _, _ => none
  | k + 1, x3, x4, x6, x7, x8, x9, x10, x61 => if x61 = true then (some false) else (if x9 = 0 then (tammylaw08_SideFirst.j1 k x3 x4 x6 x7 x10 true) else (if x6 < 0 then (tammylaw08_SideFirst.j1 k x3 x4 x6 x7 x10 true) else (tammylaw08_SideFirst.j1 k x3 x4 x6 x7 x10 (decide (x6 ≥ x8)))))
def tammylaw08_SideFirst.j1 : Nat → List (S52) → List (S38) → Int → Bool → List Int → Bool → Option (Bool)
  | 0, _, _, _, _, _, _ => none
  | k + 1, x3, x4, x6, x7, x10, x72 => if x72 = true then (some x7) else ((tammyref07_Starts.f k x4).bind fun t397 => (if 0 ≤ x6 then (if x6 < (t397.length : Int) then ((some (([] : List (S38)) : List (S38))).bind fun y401 => (if 0 ≤ (rd t397 x6) then (if (rd t397 x6) ≤ (wrap64 (x6 + 1)) then (if (wrap64 (x6 + 1)) ≤ (x4.length : Int) then ((some ((x4.take ((wrap64 (x6 + 1)) : Int).toNat).drop ((rd t397 x6) : Int).toNat : List (S38))).bind fun y404 => (if y401.length + y404.length < 4398046511104 then (if x6 < (x10.length : Int) then ((side_Check.f k x3 (y401 ++ y404) (rd x10 x6)).bind fun bt412 => (if x7 = true then (some (bt412.2 == 0)) else (some false))) else (none)) else (none))) else (none)) else (none)) else (none))) else (none)) else (none)))
end
def tammylaw08_SideFirst.f (k : Nat) (l0_0 : List (S52)) (l0_1 : List (S38)) (a0_2 : Int) (a0_3 : Int) : Option (Bool) := (tammylaw08_shown.f k).bind fun t390 => ((tammylaw08_of.f k l0_0 l0_1).bind fun t391 => (if t391 = true then ((side_Check.f k l0_0 l0_1 a0_2).bind fun bt392 => ((side_Of.f l0_0 l0_1 a0_2).bind fun t394 => (if bt392.1 < 0 then (tammylaw08_SideFirst.j0 k l0_0 l0_1 a0_3 t390 bt392.1 bt392.2 t394 true) else (if bt392.1 ≥ (l0_1.length : Int) then (tammylaw08_SideFirst.j0 k l0_0 l0_1 a0_3 t390 bt392.1 bt392.2 t394 true) else (if (t394.length : Int) = (l0_1.length : Int) then (if bt392.2 = 0 then (tammylaw08_SideFirst.j0 k l0_0 l0_1 a0_3 t390 bt392.1 bt392.2 t394 (bt392.1 != 0)) else (tammylaw08_SideFirst.j0 k l0_0 l0_1 a0_3 t390 bt392.1 bt392.2 t394 false)) else (tammylaw08_SideFirst.j0 k l0_0 l0_1 a0_3 t390 bt392.1 bt392.2 t394 true)))))) else (some t390)))
theorem tammylaw08_SideFirst.mono_l : ∀ k, (∀ y0 y1 y2 y3 y4 y5 y6 y7, LeO (tammylaw08_SideFirst.j0 k y0 y1 y2 y3 y4 y5 y6 y7) (tammylaw08_SideFirst.j0 (k + 1) y0 y1 y2 y3 y4 y5 y6 y7)) ∧ (∀ y0 y1 y2 y3 y4 y5, LeO (tammylaw08_SideFirst.j1 k y0 y1 y2 y3 y4 y5) (tammylaw08_SideFirst.j1 (k + 1) y0 y1 y2 y3 y4 y5))
  | 0 => ⟨fun _ _ _ _ _ _ _ _ r h => by simp [tammylaw08_SideFirst.j0] at h, fun _ _ _ _ _ _ r h => by simp [tammylaw08_SideFirst.j1] at h⟩
  | k + 1 => by
    obtain ⟨ih0, ih1⟩ := tammylaw08_SideFirst.mono_l k
    refine ⟨?_, ?_⟩
    · intro y0 y1 y2 y3 y4 y5 y6 y7
      unfold tammylaw08_SideFirst.j0
      repeat' first
      | (with_reducible exact ih0 _ _ _ _ _ _ _ _)
      | (with_reducible exact ih1 _ _ _ _ _ _)
      | (with_reducible exact side_Check.mono _ _ _ _)
      | (with_reducible exact tammylaw08_of.mono _ _ _)
      | (with_reducible exact tammylaw08_shown.mono _)
      | (with_reducible exact tammyref07_Starts.mono _ _)
      | (with_reducible exact LeO.refl _)
      | (with_reducible exact LeO.none _)
      | (with_reducible refine LeO.ite ?_ ?_)
      | (with_reducible refine LeO.bind ?_ (fun _ => ?_))
      | exact ih0 _ _ _ _ _ _ _ _
      | exact ih1 _ _ _ _ _ _
      | exact side_Check.mono _ _ _ _
      | exact tammylaw08_of.mono _ _ _
      | exact tammylaw08_shown.mono _
      | exact tammyref07_Starts.mono _ _
      | exact LeO.none _
      | refine LeO.ite ?_ ?_
      | refine LeO.bind ?_ (fun _ => ?_)
    · intro y0 y1 y2 y3 y4 y5
      unfold tammylaw08_SideFirst.j1
      repeat' first
      | (with_reducible exact ih0 _ _ _ _ _ _ _ _)
      | (with_reducible exact ih1 _ _ _ _ _ _)
      | (with_reducible exact side_Check.mono _ _ _ _)
      | (with_reducible exact tammylaw08_of.mono _ _ _)
      | (with_reducible exact tammylaw08_shown.mono _)
      | (with_reducible exact tammyref07_Starts.mono _ _)
      | (with_reducible exact LeO.refl _)
      | (with_reducible exact LeO.none _)
      | (with_reducible refine LeO.ite ?_ ?_)
      | (with_reducible refine LeO.bind ?_ (fun _ => ?_))
      | exact ih0 _ _ _ _ _ _ _ _
      | exact ih1 _ _ _ _ _ _
      | exact side_Check.mono _ _ _ _
      | exact tammylaw08_of.mono _ _ _
      | exact tammylaw08_shown.mono _
      | exact tammyref07_Starts.mono _ _
      | exact LeO.none _
      | refine LeO.ite ?_ ?_
      | refine LeO.bind ?_ (fun _ => ?_)
theorem tammylaw08_SideFirst.mono : ∀ a0 a1 a2 a3 k, LeO (tammylaw08_SideFirst.f k a0 a1 a2 a3) (tammylaw08_SideFirst.f (k + 1) a0 a1 a2 a3) := by
  intro a0 a1 a2 a3 k
  obtain ⟨ih0, ih1⟩ := tammylaw08_SideFirst.mono_l k
  unfold tammylaw08_SideFirst.f
  repeat' first
      | (with_reducible exact ih0 _ _ _ _ _ _ _ _)
      | (with_reducible exact ih1 _ _ _ _ _ _)
      | (with_reducible exact side_Check.mono _ _ _ _)
      | (with_reducible exact tammylaw08_of.mono _ _ _)
      | (with_reducible exact tammylaw08_shown.mono _)
      | (with_reducible exact tammyref07_Starts.mono _ _)
      | (with_reducible exact LeO.refl _)
      | (with_reducible exact LeO.none _)
      | (with_reducible refine LeO.ite ?_ ?_)
      | (with_reducible refine LeO.bind ?_ (fun _ => ?_))
      | exact ih0 _ _ _ _ _ _ _ _
      | exact ih1 _ _ _ _ _ _
      | exact side_Check.mono _ _ _ _
      | exact tammylaw08_of.mono _ _ _
      | exact tammylaw08_shown.mono _
      | exact tammyref07_Starts.mono _ _
      | exact LeO.none _
      | refine LeO.ite ?_ ?_
      | refine LeO.bind ?_ (fun _ => ?_)
def tammylaw08_SideFirst.T15 : Bool × List (List Nat × List Nat) := (true, [([], []), ([], []), ([], []), ([], []), ([], []), ([4], [4]), ([2, 3, 5], [2, 3, 5]), ([1, 6], [1, 6]), ([], []), ([], []), ([8, 9], [8, 9]), ([10], [10]), ([0, 7, 11, 7], [0, 7, 11]), ([12], [12]), ([13], [13]), ([13], [13]), ([14, 12, 0, 1, 2, 3, 4, 5, 6, 7, 8, 9, 10, 11, 12, 13, 14], [14]), ([15, 16, 0, 1, 2, 3, 4, 5, 6, 7, 8, 9, 10, 11, 12, 13, 14, 15, 16], [15])])
def tammylaw08_SideFirst.B15 : List Nat := [0, 0, 0, 0, 0, 16, 60, 126, 0, 0, 768, 1792, 4095, 8191, 16383, 16383, 32767, 131071]
theorem tammylaw08_SideFirst.tab15 : rtab .any (opsOf Try.f8 15) = tammylaw08_SideFirst.T15 := by kernel_rfl
theorem tammylaw08_SideFirst.bits15 : waitsOk tammylaw08_SideFirst.T15.2 tammylaw08_SideFirst.B15 = true := by kernel_rfl
set_option maxHeartbeats 8000000 in
set_option maxRecDepth 100000 in
theorem tammylaw08_SideFirst.calls (k : Nat) (A0_0 : Option Addr) (c0_0 : Nat) (l0_0 : List (S52)) (A0_1 : Option Addr) (c0_1 : Nat) (l0_1 : List (S38)) (a0_2 : Int) (a0_3 : Int) (r : Bool) (w : World) (hr0_0 : Kd.C k52 w A0_0 l0_0.length l0_0) (hc0_0 : l0_0.length ≤ c0_0) (hr0_1 : Kd.C k38 w A0_1 l0_1.length l0_1) (hc0_1 : l0_1.length ≤ c0_1) (h : tammylaw08_SideFirst.f k l0_0 l0_1 a0_2 a0_3 = some r) :
    Calls Try.prog 8 #[.agg #[.slice A0_0 l0_0.length c0_0, .slice A0_1 l0_1.length c0_1, .int .u8 a0_2, .int .i64 a0_3]] w fun e w' => e = .returned (.bool r) ∧ Below w.heap.size w w' := by
  have hu47 := Try.underlying47
  have HR0_0 := Aside0.mk hr0_0
  have HC0_0 := Aside0.mk hc0_0
  clear hr0_0 hc0_0
  have HR0_1 := Aside0.mk hr0_1
  have HC0_1 := Aside0.mk hc0_1
  clear hr0_1 hc0_1
  have HB := Aside0.mk (Below.refl w.heap.size w)
  have H : ((tammylaw08_shown.f k).bind fun t390 => ((tammylaw08_of.f k l0_0 l0_1).bind fun t391 => (if t391 = true then ((side_Check.f k l0_0 l0_1 a0_2).bind fun bt392 => ((side_Of.f l0_0 l0_1 a0_2).bind fun t394 => (if bt392.1 < 0 then (tammylaw08_SideFirst.j0 k l0_0 l0_1 a0_3 t390 bt392.1 bt392.2 t394 true) else (if bt392.1 ≥ (l0_1.length : Int) then (tammylaw08_SideFirst.j0 k l0_0 l0_1 a0_3 t390 bt392.1 bt392.2 t394 true) else (if (t394.length : Int) = (l0_1.length : Int) then (if bt392.2 = 0 then (tammylaw08_SideFirst.j0 k l0_0 l0_1 a0_3 t390 bt392.1 bt392.2 t394 (bt392.1 != 0)) else (tammylaw08_SideFirst.j0 k l0_0 l0_1 a0_3 t390 bt392.1 bt392.2 t394 false)) else (tammylaw08_SideFirst.j0 k l0_0 l0_1 a0_3 t390 bt392.1 bt392.2 t394 true)))))) else (some t390)))) = some r := h
  clear h
  replace H := Option.bind_eq_some_iff.mp H
  obtain ⟨t390, A20, H⟩ := H
  replace H : ((tammylaw08_of.f k l0_0 l0_1).bind fun t391 => (if t391 = true then ((side_Check.f k l0_0 l0_1 a0_2).bind fun bt392 => ((side_Of.f l0_0 l0_1 a0_2).bind fun t394 => (if bt392.1 < 0 then (tammylaw08_SideFirst.j0 k l0_0 l0_1 a0_3 t390 bt392.1 bt392.2 t394 true) else (if bt392.1 ≥ (l0_1.length : Int) then (tammylaw08_SideFirst.j0 k l0_0 l0_1 a0_3 t390 bt392.1 bt392.2 t394 true) else (if (t394.length : Int) = (l0_1.length : Int) then (if bt392.2 = 0 then (tammylaw08_SideFirst.j0 k l0_0 l0_1 a0_3 t390 bt392.1 bt392.2 t394 (bt392.1 != 0)) else (tammylaw08_SideFirst.j0 k l0_0 l0_1 a0_3 t390 bt392.1 bt392.2 t394 false)) else (tammylaw08_SideFirst.j0 k l0_0 l0_1 a0_3 t390 bt392.1 bt392.2 t394 true)))))) else (some t390))) = some r := H
  have A2 := Aside0.mk A20
  clear A20
  replace H := Option.bind_eq_some_iff.mp H
  obtain ⟨t391, A30, H⟩ := H
  replace H : (if t391 = true then ((side_Check.f k l0_0 l0_1 a0_2).bind fun bt392 => ((side_Of.f l0_0 l0_1 a0_2).bind fun t394 => (if bt392.1 < 0 then (tammylaw08_SideFirst.j0 k l0_0 l0_1 a0_3 t390 bt392.1 bt392.2 t394 true) else (if bt392.1 ≥ (l0_1.length : Int) then (tammylaw08_SideFirst.j0 k l0_0 l0_1 a0_3 t390 bt392.1 bt392.2 t394 true) else (if (t394.length : Int) = (l0_1.length : Int) then (if bt392.2 = 0 then (tammylaw08_SideFirst.j0 k l0_0 l0_1 a0_3 t390 bt392.1 bt392.2 t394 (bt392.1 != 0)) else (tammylaw08_SideFirst.j0 k l0_0 l0_1 a0_3 t390 bt392.1 bt392.2 t394 false)) else (tammylaw08_SideFirst.j0 k l0_0 l0_1 a0_3 t390 bt392.1 bt392.2 t394 true)))))) else (some t390)) = some r := H
  have A3 := Aside0.mk A30
  clear A30
  by_cases c4 : t391 = true
  · subst c4
    have H1 : ((side_Check.f k l0_0 l0_1 a0_2).bind fun bt392 => ((side_Of.f l0_0 l0_1 a0_2).bind fun t394 => (if bt392.1 < 0 then (tammylaw08_SideFirst.j0 k l0_0 l0_1 a0_3 t390 bt392.1 bt392.2 t394 true) else (if bt392.1 ≥ (l0_1.length : Int) then (tammylaw08_SideFirst.j0 k l0_0 l0_1 a0_3 t390 bt392.1 bt392.2 t394 true) else (if (t394.length : Int) = (l0_1.length : Int) then (if bt392.2 = 0 then (tammylaw08_SideFirst.j0 k l0_0 l0_1 a0_3 t390 bt392.1 bt392.2 t394 (bt392.1 != 0)) else (tammylaw08_SideFirst.j0 k l0_0 l0_1 a0_3 t390 bt392.1 bt392.2 t394 false)) else (tammylaw08_SideFirst.j0 k l0_0 l0_1 a0_3 t390 bt392.1 bt392.2 t394 true)))))) = some r := by rw [if_pos rfl] at H; exact H
    clear H
    have H := H1
    clear H1
    replace H := Option.bind_eq_some_iff.mp H
    obtain ⟨⟨t392, t393⟩, A50, H⟩ := H
    replace H : ((side_Of.f l0_0 l0_1 a0_2).bind fun t394 => (if t392 < 0 then (tammylaw08_SideFirst.j0 k l0_0 l0_1 a0_3 t390 t392 t393 t394 true) else (if t392 ≥ (l0_1.length : Int) then (tammylaw08_SideFirst.j0 k l0_0 l0_1 a0_3 t390 t392 t393 t394 true) else (if (t394.length : Int) = (l0_1.length : Int) then (if t393 = 0 then (tammylaw08_SideFirst.j0 k l0_0 l0_1 a0_3 t390 t392 t393 t394 (t392 != 0)) else (tammylaw08_SideFirst.j0 k l0_0 l0_1 a0_3 t390 t392 t393 t394 false)) else (tammylaw08_SideFirst.j0 k l0_0 l0_1 a0_3 t390 t392 t393 t394 true))))) = some r := H
    have A5 := Aside0.mk A50
    clear A50
    replace H := Option.bind_eq_some_iff.mp H
    obtain ⟨t394, A60, H⟩ := H
    replace H : (if t392 < 0 then (tammylaw08_SideFirst.j0 k l0_0 l0_1 a0_3 t390 t392 t393 t394 true) else (if t392 ≥ (l0_1.length : Int) then (tammylaw08_SideFirst.j0 k l0_0 l0_1 a0_3 t390 t392 t393 t394 true) else (if (t394.length : Int) = (l0_1.length : Int) then (if t393 = 0 then (tammylaw08_SideFirst.j0 k l0_0 l0_1 a0_3 t390 t392 t393 t394 (t392 != 0)) else (tammylaw08_SideFirst.j0 k l0_0 l0_1 a0_3 t390 t392 t393 t394 false)) else (tammylaw08_SideFirst.j0 k l0_0 l0_1 a0_3 t390 t392 t393 t394 true)))) = some r := H
    have A6 := Aside0.mk A60
    clear A60
    have HC7 := Aside0.mk H
    clear H
    go_enter Try.func8, Try.ntmps8
    go_upto_region 10 with (first | ((with_reducible refine gate_dst (N := 1) rfl ?_); (try (refine gate_guard (by rfl) ?_; dsimp only)); refine box_event ?hg (N := 1) ?hd (cs := #[.slice A0_0 l0_0.length c0_0, .slice A0_1 l0_1.length c0_1, .int .u8 a0_2, .int .i64 a0_3]) (t := 47) ?hr ?_; (case hd => rfl); (case hg => rfl); (case hr => first | (go_simp; done) | (go_simp; rfl)); intro gb389 hg w8 hbox hb; have n0_ := Aside0.mk (below_step (by repeat (first | (with_reducible first | exact HB.out | apply below_alloc | apply pw_below_drewN | apply below_drew1) | exact HB.out)) hb); have n1_ := Aside0.mk (hbox); have n2_ := Aside0.mk ((by rw [hg]; exact (below_size (by repeat (first | (with_reducible first | exact HB.out | apply below_alloc | apply pw_below_drewN | apply below_drew1) | exact HB.out))) : w.heap.size ≤ gb389)); have n3_ := Aside0.mk ((by rw [hg]; exact (below_size (by repeat (first | (with_reducible first | exact HB.out | apply below_alloc | apply pw_below_drewN | apply below_drew1) | exact HB.out))) : w.heap.size ≤ gb389)); clear HB; have HB := n0_; have BK389 := n1_; have GW389 := n2_; have GE389 := n3_; clear n0_ n1_ n2_ n3_; clear hb hbox hg; have hcz9_0 : w8.cell? ⟨gb389, 0, none⟩ = some (.slice A0_0 l0_0.length c0_0) := (blk_cell BK389.out 0).trans rfl; have hcz9_1 : w8.cell? ⟨gb389, 1, none⟩ = some (.slice A0_1 l0_1.length c0_1) := (blk_cell BK389.out 1).trans rfl; have hcz9_2 : w8.cell? ⟨gb389, 2, none⟩ = some (.int .u8 a0_2) := (blk_cell BK389.out 2).trans rfl; have hcz9_3 : w8.cell? ⟨gb389, 3, none⟩ = some (.int .i64 a0_3) := (blk_cell BK389.out 3).trans rfl; have hfz9_0 := blk_frozen BK389.out 0; have hfz9_1 := blk_frozen BK389.out 1; have hfz9_2 := blk_frozen BK389.out 2; have hfz9_3 := blk_frozen BK389.out 3) | ((with_reducible refine gate_callee (f := 10) rfl ?_); refine goesL_ (some 22) rfl rfl Try.func10 (by kernel_rfl) rfl #[] rfl (by (try simp only [List.map_toArray, List.map_cons, List.map_nil]); first | done | rfl | (simp only [List.length_drop, List.length_take]; rfl)) ?_; (with_reducible refine (tammylaw08_shown.calls k  t390 _ A2.out).mono ?_); rintro e w10 ⟨rfl, hb⟩; refine ⟨_, rfl, ?_⟩; have n0_ := Aside0.mk (blk_below (g := gb389) (o := .cells #[.slice A0_0 l0_0.length c0_0, .slice A0_1 l0_1.length c0_1, .int .u8 a0_2, .int .i64 a0_3] 47 (0, 0)) (by (with_reducible repeat (first | refine blk_drewN ?_ _ | refine blk_drew ?_ | refine blk_alloc ?_ _)); exact BK389.out) hb); have n1_ := Aside0.mk (below_step (by repeat (first | (with_reducible first | exact HB.out | apply below_alloc | apply pw_below_drewN | apply below_drew1 | refine below_set ?_ GE389.out) | exact HB.out)) hb); clear BK389; clear HB; have BK389 := n0_; have HB := n1_; clear n0_ n1_; (try clear hb); (try clear hb2); (try clear hk); (try clear hi)) | ((with_reducible refine gate_callee (f := 11) rfl ?_); refine goesL_ (some 25) rfl rfl Try.func11 (by kernel_rfl) rfl #[.slice A0_0 l0_0.length c0_0, .slice A0_1 l0_1.length c0_1] rfl (by (try simp only [List.map_toArray, List.map_cons, List.map_nil]); first | done | rfl | (simp only [List.length_drop, List.length_take]; rfl)) ?_; (with_reducible refine (tammylaw08_of.calls k _ _ l0_0 _ _ l0_1 true _ ?side1 ?side2 ?side3 ?side4 A3.out).mono ?_); (case side1 => repeat (first | exact (Kd.C_below HR0_0.out HB.out) | (with_reducible refine Kd.C_alloc ?_ _) | (with_reducible refine Kd.C_drewN ?_ _) | (with_reducible refine Kd.C_drew ?_))); (case side2 => exact HC0_0.out); (case side3 => repeat (first | exact (Kd.C_below HR0_1.out HB.out) | (with_reducible refine Kd.C_alloc ?_ _) | (with_reducible refine Kd.C_drewN ?_ _) | (with_reducible refine Kd.C_drew ?_))); (case side4 => exact HC0_1.out); rintro e w11 ⟨rfl, hb⟩; refine ⟨_, rfl, ?_⟩; have n0_ := Aside0.mk (blk_below (g := gb389) (o := .cells #[.slice A0_0 l0_0.length c0_0, .slice A0_1 l0_1.length c0_1, .int .u8 a0_2, .int .i64 a0_3] 47 (0, 0)) (by (with_reducible repeat (first | refine blk_drewN ?_ _ | refine blk_drew ?_ | refine blk_alloc ?_ _)); exact BK389.out) hb); have n1_ := Aside0.mk (below_step (by repeat (first | (with_reducible first | exact HB.out | apply below_alloc | apply pw_below_drewN | apply below_drew1 | refine below_set ?_ GE389.out) | exact HB.out)) hb); clear BK389; clear HB; have BK389 := n0_; have HB := n1_; clear n0_ n1_; (try clear hb); (try clear hb2); (try clear hk); (try clear hi)) | ((with_reducible refine gate_callee (f := 12) rfl ?_); refine goesL_ (some 32) rfl rfl Try.func12 (by kernel_rfl) rfl #[.slice A0_0 l0_0.length c0_0, .slice A0_1 l0_1.length c0_1, .int .u8 a0_2] rfl (by (try simp only [List.map_toArray, List.map_cons, List.map_nil]); first | done | rfl | (simp only [List.length_drop, List.length_take]; rfl)) ?_; (with_reducible refine (side_Check.calls k _ _ l0_0 _ _ l0_1 a0_2 t392 t393 _ ?side1 ?side2 ?side3 ?side4 A5.out).mono ?_); (case side1 => repeat (first | exact (Kd.C_below HR0_0.out HB.out) | (with_reducible refine Kd.C_alloc ?_ _) | (with_reducible refine Kd.C_drewN ?_ _) | (with_reducible refine Kd.C_drew ?_))); (case side2 => exact HC0_0.out); (case side3 => repeat (first | exact (Kd.C_below HR0_1.out HB.out) | (with_reducible refine Kd.C_alloc ?_ _) | (with_reducible refine Kd.C_drewN ?_ _) | (with_reducible refine Kd.C_drew ?_))); (case side4 => exact HC0_1.out); rintro e w12 ⟨rfl, hb⟩; refine ⟨_, rfl, ?_⟩; have n0_ := Aside0.mk (blk_below (g := gb389) (o := .cells #[.slice A0_0 l0_0.length c0_0, .slice A0_1 l0_1.length c0_1, .int .u8 a0_2, .int .i64 a0_3] 47 (0, 0)) (by (with_reducible repeat (first | refine blk_drewN ?_ _ | refine blk_drew ?_ | refine blk_alloc ?_ _)); exact BK389.out) hb); have n1_ := Aside0.mk (below_step (by repeat (first | (with_reducible first | exact HB.out | apply below_alloc | apply pw_below_drewN | apply below_drew1 | refine below_set ?_ GE389.out) | exact HB.out)) hb); clear BK389; clear HB; have BK389 := n0_; have HB := n1_; clear n0_ n1_; (try clear hb); (try clear hb2); (try clear hk); (try clear hi)) | ((with_reducible refine gate_callee (f := 14) rfl ?_); refine goesL_ (some 38) rfl rfl Try.func14 (by kernel_rfl) rfl #[.slice A0_0 l0_0.length c0_0, .slice A0_1 l0_1.length c0_1, .int .u8 a0_2] rfl (by (try simp only [List.map_toArray, List.map_cons, List.map_nil]); first | done | rfl | (simp only [List.length_drop, List.length_take]; rfl)) ?_; (with_reducible refine (side_Of.calls _ _ l0_0 _ _ l0_1 a0_2 t394 _ ?side1 ?side2 ?side3 ?side4 A6.out).mono ?_); (case side1 => repeat (first | exact (Kd.C_below HR0_0.out HB.out) | (with_reducible refine Kd.C_alloc ?_ _) | (with_reducible refine Kd.C_drewN ?_ _) | (with_reducible refine Kd.C_drew ?_))); (case side2 => exact HC0_0.out); (case side3 => repeat (first | exact (Kd.C_below HR0_1.out HB.out) | (with_reducible refine Kd.C_alloc ?_ _) | (with_reducible refine Kd.C_drewN ?_ _) | (with_reducible refine Kd.C_drew ?_))); (case side4 => exact HC0_1.out); rintro e w13 ⟨v395, rfl, ho0, hb⟩; refine ⟨_, rfl, ?_⟩; have n0_ := Aside0.mk (Kd.R_lower ho0 (below_size (by repeat (first | (with_reducible first | exact HB.out | apply below_alloc | apply pw_below_drewN | apply below_drew1 | refine below_set ?_ GE389.out) | exact HB.out)))); have n1_ := Aside0.mk (blk_below (g := gb389) (o := .cells #[.slice A0_0 l0_0.length c0_0, .slice A0_1 l0_1.length c0_1, .int .u8 a0_2, .int .i64 a0_3] 47 (0, 0)) (by (with_reducible repeat (first | refine blk_drewN ?_ _ | refine blk_drew ?_ | refine blk_alloc ?_ _)); exact BK389.out) hb); have n2_ := Aside0.mk (below_step (by repeat (first | (with_reducible first | exact HB.out | apply below_alloc | apply pw_below_drewN | apply below_drew1 | refine below_set ?_ GE389.out) | exact HB.out)) hb); clear BK389; clear HB; have HO396 := n0_; have BK389 := n1_; have HB := n2_; clear n0_ n1_ n2_; (try clear hb); (try clear hb2); (try clear hk); (try clear hi); (try clear ho0)))
    (try simp only [Act.put, List.setIfInBounds_toArray, List.set_cons_zero, List.set_cons_succ])
    go_cut [61] (fun v61 wc => ∃ (kq : Nat) (x61_6 : Bool), v61 = .bool x61_6 ∧ Aside0 (tammylaw08_SideFirst.j0 kq l0_0 l0_1 a0_3 t390 t392 t393 t394 x61_6 = some r) ∧ Aside0 (kq ≤ k) ∧ Aside0 (Kd.R (Kd.int .u8) 5 wc w.heap.size (fun _ => True) v395 t394) ∧ Aside0 (wc.heap[gb389]? = some (.cells #[(.slice A0_0 l0_0.length c0_0), (.slice A0_1 l0_1.length c0_1), .int .u8 a0_2, .int .i64 a0_3] 47 (0, 0))) ∧ Aside0 (Below w.heap.size w wc))
    case first =>
      have H := HC7.out
      clear HC7
      by_cases c14 : t392 < 0
      · rw [if_pos c14] at H
        have c14b0 : decide (t392 < 0) = true := decide_eq_true c14
        clear c14
        (first | rw [c14b0] | (simp only [i64_w, i32_w]; rw [c14b0]) | skip)
        have H' := Aside0.mk H
        clear H
        go_wp2
        go_meet
        case rel => exact ⟨_, (true), (by first | rfl | (simp; done) | (simp [*]; done)), H', ⟨by first | omega | exact Nat.le_refl _⟩, ⟨by (with_reducible repeat (first | apply Kd.R_alloc | apply Kd.R_drewN | apply Kd.R_drew)); exact HO396.out⟩, ⟨by (with_reducible repeat (first | refine blk_drewN ?_ _ | refine blk_drew ?_ | refine blk_alloc ?_ _)); exact BK389.out⟩, ⟨by repeat (first | (with_reducible first | exact HB.out | apply below_alloc | apply pw_below_drewN | apply below_drew1 | refine below_set ?_ GE389.out) | exact HB.out)⟩⟩
      · rw [if_neg c14] at H
        have c14b0 : decide (t392 < 0) = false := decide_eq_false c14
        clear c14
        (first | rw [c14b0] | (simp only [i64_w, i32_w]; rw [c14b0]) | skip)
        by_cases c15 : t392 ≥ (l0_1.length : Int)
        · rw [if_pos c15] at H
          have c15b0 : decide ((l0_1.length : Int) ≤ t392) = true := decide_eq_true c15
          clear c15
          have H' := Aside0.mk H
          clear H
          go_wp2
          go_meet
          case rel => exact ⟨_, (true), (by first | rfl | (simp; done) | (simp [*]; done)), H', ⟨by first | omega | exact Nat.le_refl _⟩, ⟨by (with_reducible repeat (first | apply Kd.R_alloc | apply Kd.R_drewN | apply Kd.R_drew)); exact HO396.out⟩, ⟨by (with_reducible repeat (first | refine blk_drewN ?_ _ | refine blk_drew ?_ | refine blk_alloc ?_ _)); exact BK389.out⟩, ⟨by repeat (first | (with_reducible first | exact HB.out | apply below_alloc | apply pw_below_drewN | apply below_drew1 | refine below_set ?_ GE389.out) | exact HB.out)⟩⟩
        · rw [if_neg c15] at H
          have c15b0 : decide ((l0_1.length : Int) ≤ t392) = false := decide_eq_false c15
          clear c15
          by_cases c16 : (t394.length : Int) = (l0_1.length : Int)
          · rw [if_pos c16] at H
            have c16b0 : ((t394.length : Int) == (l0_1.length : Int)) = true := beq_iff_eq.mpr c16
            have c16b1 : ((t394.length : Int) != (l0_1.length : Int)) = false := bne_eq_false_iff_eq.mpr c16
            have c16b2 : (t394.length == l0_1.length) = true := by first | simpa using c16 | (simp at c16 ⊢; omega)
            clear c16
            by_cases c17 : t393 = 0
            · rw [if_pos c17] at H
              have c17b0 : (t393 == 0) = true := beq_iff_eq.mpr c17
              have c17b1 : (t393 != 0) = false := bne_eq_false_iff_eq.mpr c17
              clear c17
              have H' := Aside0.mk H
              clear H
              obtain ⟨Ao18, co18, eo18⟩ := Kd.R_slice HO396.out
              subst eo18
              go_wp2
              go_meet
              case rel => exact ⟨_, ((t392 != 0)), (by first | rfl | (simp; done) | (simp [*]; done)), H', ⟨by first | omega | exact Nat.le_refl _⟩, ⟨by (with_reducible repeat (first | apply Kd.R_alloc | apply Kd.R_drewN | apply Kd.R_drew)); exact HO396.out⟩, ⟨by (with_reducible repeat (first | refine blk_drewN ?_ _ | refine blk_drew ?_ | refine blk_alloc ?_ _)); exact BK389.out⟩, ⟨by repeat (first | (with_reducible first | exact HB.out | apply below_alloc | apply pw_below_drewN | apply below_drew1 | refine below_set ?_ GE389.out) | exact HB.out)⟩⟩
            · rw [if_neg c17] at H
              have c17b0 : (t393 == 0) = false := beq_eq_false_iff_ne.mpr c17
              have c17b1 : (t393 != 0) = true := bne_iff_ne.mpr c17
              have H' := Aside0.mk H
              clear H
              obtain ⟨Ao19, co19, eo19⟩ := Kd.R_slice HO396.out
              subst eo19
              go_wp2
              go_meet
              case rel => exact ⟨_, (false), (by first | rfl | (simp; done) | (simp [*]; done)), H', ⟨by first | omega | exact Nat.le_refl _⟩, ⟨by (with_reducible repeat (first | apply Kd.R_alloc | apply Kd.R_drewN | apply Kd.R_drew)); exact HO396.out⟩, ⟨by (with_reducible repeat (first | refine blk_drewN ?_ _ | refine blk_drew ?_ | refine blk_alloc ?_ _)); exact BK389.out⟩, ⟨by repeat (first | (with_reducible first | exact HB.out | apply below_alloc | apply pw_below_drewN | apply below_drew1 | refine below_set ?_ GE389.out) | exact HB.out)⟩⟩
          · rw [if_neg c16] at H
            have c16b0 : ((t394.length : Int) == (l0_1.length : Int)) = false := beq_eq_false_iff_ne.mpr c16
            have c16b1 : ((t394.length : Int) != (l0_1.length : Int)) = true := bne_iff_ne.mpr c16
            have c16b2 : (t394.length == l0_1.length) = false := by first | simpa using c16 | (simp at c16 ⊢; omega)
            have H' := Aside0.mk H
            clear H
            obtain ⟨Ao20, co20, eo20⟩ := Kd.R_slice HO396.out
            subst eo20
            go_wp2
            go_meet
            case rel => exact ⟨_, (true), (by first | rfl | (simp; done) | (simp [*]; done)), H', ⟨by first | omega | exact Nat.le_refl _⟩, ⟨by (with_reducible repeat (first | apply Kd.R_alloc | apply Kd.R_drewN | apply Kd.R_drew)); exact HO396.out⟩, ⟨by (with_reducible repeat (first | refine blk_drewN ?_ _ | refine blk_drew ?_ | refine blk_alloc ?_ _)); exact BK389.out⟩, ⟨by repeat (first | (with_reducible first | exact HB.out | apply below_alloc | apply pw_below_drewN | apply below_drew1 | refine below_set ?_ GE389.out) | exact HB.out)⟩⟩
    case rest =>
      clear HC7
      try clear c1
      try clear p2
      try clear c4
      try clear c8
      try clear c10
      try clear c11
      try clear c12
      try clear c14
      try clear c14b0
      try clear c15
      try clear c15b0
      try clear c16
      try clear c16b0
      try clear c16b1
      try clear c16b2
      try clear c17
      try clear c17b0
      try clear c17b1
      try clear hcz9_0
      try clear hcz9_1
      try clear hcz9_2
      try clear hcz9_3
      try clear hfz9_0
      try clear hfz9_1
      try clear hfz9_2
      try clear hfz9_3
      obtain ⟨kq, x61_6, rfl, HA, HJ6, HO_10, BK389, HB⟩ := hcut
      cases kq with
      | zero => exact absurd HA.out (by simp [tammylaw08_SideFirst.j0])
      | succ kj6 =>
        have H := HA.out
        clear HA
        simp only [tammylaw08_SideFirst.j0] at H
        by_cases c21 : x61_6 = true
        · subst c21
          have H1 : (some false) = some r := by rw [if_pos rfl] at H; exact H
          clear H
          have H := H1
          clear H1
          obtain rfl := Option.some.inj H
          go_wp2
          go_ret
          exact ⟨by first | rfl | (simp [errW_none, errW_some] <;> rfl) | (simp [*, errW_none, errW_some] <;> rfl), by repeat (first | (with_reducible first | exact HB.out | apply below_alloc | apply pw_below_drewN | apply below_drew1 | refine below_set ?_ GE389.out) | exact HB.out)⟩
        · replace c21 := Bool.eq_false_iff.mpr c21
          subst c21
          have H1 : (if t393 = 0 then (tammylaw08_SideFirst.j1 kj6 l0_0 l0_1 a0_3 t390 t394 true) else (if a0_3 < 0 then (tammylaw08_SideFirst.j1 kj6 l0_0 l0_1 a0_3 t390 t394 true) else (tammylaw08_SideFirst.j1 kj6 l0_0 l0_1 a0_3 t390 t394 (decide (a0_3 ≥ t392))))) = some r := by rw [if_neg (show ¬ (false = true) by decide)] at H; exact H
          clear H
          have H := H1
          clear H1
          have HC22 := Aside0.mk H
          clear H
          go_upto_region 12 with (fail)
          go_cut [72] (fun v72 wc => ∃ (kq : Nat) (x72_21 : Bool), v72 = .bool x72_21 ∧ Aside0 (tammylaw08_SideFirst.j1 kq l0_0 l0_1 a0_3 t390 t394 x72_21 = some r) ∧ Aside0 (kq ≤ kj6) ∧ Aside0 (Kd.R (Kd.int .u8) 5 wc w.heap.size (fun _ => True) v395 t394) ∧ Aside0 (wc.heap[gb389]? = some (.cells #[(.slice A0_0 l0_0.length c0_0), (.slice A0_1 l0_1.length c0_1), .int .u8 a0_2, .int .i64 a0_3] 47 (0, 0))) ∧ Aside0 (Below w.heap.size w wc))
          case first =>
            have H := HC22.out
            clear HC22
            by_cases c23 : t393 = 0
            · rw [if_pos c23] at H
              have c23b0 : (t393 == 0) = true := beq_iff_eq.mpr c23
              have c23b1 : (t393 != 0) = false := bne_eq_false_iff_eq.mpr c23
              clear c23
              (first | rw [c23b0] | (simp only [i64_w, i32_w]; rw [c23b0]) | skip)
              have H' := Aside0.mk H
              clear H
              go_wp2
              go_meet
              case rel => exact ⟨_, (true), (by first | rfl | (simp; done) | (simp [*]; done)), H', ⟨by have := HJ6.out; first | omega | exact Nat.le_refl _⟩, ⟨by (with_reducible repeat (first | apply Kd.R_alloc | apply Kd.R_drewN | apply Kd.R_drew)); exact HO_10.out⟩, ⟨by (with_reducible repeat (first | refine blk_drewN ?_ _ | refine blk_drew ?_ | refine blk_alloc ?_ _)); exact BK389.out⟩, ⟨by repeat (first | (with_reducible first | exact HB.out | apply below_alloc | apply pw_below_drewN | apply below_drew1 | refine below_set ?_ GE389.out) | exact HB.out)⟩⟩
            · rw [if_neg c23] at H
              have c23b0 : (t393 == 0) = false := beq_eq_false_iff_ne.mpr c23
              have c23b1 : (t393 != 0) = true := bne_iff_ne.mpr c23
              (first | rw [c23b0] | (simp only [i64_w, i32_w]; rw [c23b0]) | skip)
              by_cases c24 : a0_3 < 0
              · rw [if_pos c24] at H
                have c24b0 : decide (a0_3 < 0) = true := decide_eq_true c24
                clear c24
                have H' := Aside0.mk H
                clear H
                go_wp2
                go_meet
                case rel => exact ⟨_, (true), (by first | rfl | (simp; done) | (simp [*]; done)), H', ⟨by have := HJ6.out; first | omega | exact Nat.le_refl _⟩, ⟨by (with_reducible repeat (first | apply Kd.R_alloc | apply Kd.R_drewN | apply Kd.R_drew)); exact HO_10.out⟩, ⟨by (with_reducible repeat (first | refine blk_drewN ?_ _ | refine blk_drew ?_ | refine blk_alloc ?_ _)); exact BK389.out⟩, ⟨by repeat (first | (with_reducible first | exact HB.out | apply below_alloc | apply pw_below_drewN | apply below_drew1 | refine below_set ?_ GE389.out) | exact HB.out)⟩⟩
              · rw [if_neg c24] at H
                have c24b0 : decide (a0_3 < 0) = false := decide_eq_false c24
                clear c24
                have H' := Aside0.mk H
                clear H
                go_wp2
                go_meet
                case rel => exact ⟨_, (decide (a0_3 ≥ t392)), (by first | rfl | (simp; done) | (simp [*]; done)), H', ⟨by have := HJ6.out; first | omega | exact Nat.le_refl _⟩, ⟨by (with_reducible repeat (first | apply Kd.R_alloc | apply Kd.R_drewN | apply Kd.R_drew)); exact HO_10.out⟩, ⟨by (with_reducible repeat (first | refine blk_drewN ?_ _ | refine blk_drew ?_ | refine blk_alloc ?_ _)); exact BK389.out⟩, ⟨by repeat (first | (with_reducible first | exact HB.out | apply below_alloc | apply pw_below_drewN | apply below_drew1 | refine below_set ?_ GE389.out) | exact HB.out)⟩⟩
          case rest =>
            clear HC22
            try clear c1
            try clear c2
            try clear p2
            try clear c4
            try clear c8
            try clear c10
            try clear c11
            try clear c12
            try clear c14
            try clear c14b0
            try clear c15
            try clear c15b0
            try clear c16
            try clear c16b0
            try clear c16b1
            try clear c16b2
            try clear c17
            try clear c17b0
            try clear c17b1
            try clear c21
            try clear c23
            try clear c23b0
            try clear c23b1
            try clear c24
            try clear c24b0
            try clear hcz9_0
            try clear hcz9_1
            try clear hcz9_2
            try clear hcz9_3
            try clear hfz9_0
            try clear hfz9_1
            try clear hfz9_2
            try clear hfz9_3
            try clear p2
            obtain ⟨kq, x72_21, rfl, HA, HJ21, HO_10, BK389, HB⟩ := hcut
            cases kq with
            | zero => exact absurd HA.out (by simp [tammylaw08_SideFirst.j1])
            | succ kj21 =>
              have H := HA.out
              clear HA
              simp only [tammylaw08_SideFirst.j1] at H
              by_cases c25 : x72_21 = true
              · subst c25
                have H1 : (some t390) = some r := by rw [if_pos rfl] at H; exact H
                clear H
                have H := H1
                clear H1
                obtain rfl := Option.some.inj H
                go_wp2
                go_ret
                exact ⟨by first | rfl | (simp [errW_none, errW_some] <;> rfl) | (simp [*, errW_none, errW_some] <;> rfl), by repeat (first | (with_reducible first | exact HB.out | apply below_alloc | apply pw_below_drewN | apply below_drew1 | refine below_set ?_ GE389.out) | exact HB.out)⟩
              · replace c25 := Bool.eq_false_iff.mpr c25
                subst c25
                have H1 : ((tammyref07_Starts.f kj21 l0_1).bind fun t397 => (if 0 ≤ a0_3 then (if a0_3 < (t397.length : Int) then ((some (([] : List (S38)) : List (S38))).bind fun y401 => (if 0 ≤ (rd t397 a0_3) then (if (rd t397 a0_3) ≤ (wrap64 (a0_3 + 1)) then (if (wrap64 (a0_3 + 1)) ≤ (l0_1.length : Int) then ((some ((l0_1.take ((wrap64 (a0_3 + 1)) : Int).toNat).drop ((rd t397 a0_3) : Int).toNat : List (S38))).bind fun y404 => (if y401.length + y404.length < 4398046511104 then (if a0_3 < (t394.length : Int) then ((side_Check.f kj21 l0_0 (y401 ++ y404) (rd t394 a0_3)).bind fun bt412 => (if t390 = true then (some (bt412.2 == 0)) else (some false))) else (none)) else (none))) else (none)) else (none)) else (none))) else (none)) else (none))) = some r := by rw [if_neg (show ¬ (false = true) by decide)] at H; exact H
                clear H
                have H := H1
                clear H1
                replace H := Option.bind_eq_some_iff.mp H
                obtain ⟨t397, A260, H⟩ := H
                replace H : (if 0 ≤ a0_3 then (if a0_3 < (t397.length : Int) then ((some (([] : List (S38)) : List (S38))).bind fun y401 => (if 0 ≤ (rd t397 a0_3) then (if (rd t397 a0_3) ≤ (wrap64 (a0_3 + 1)) then (if (wrap64 (a0_3 + 1)) ≤ (l0_1.length : Int) then ((some ((l0_1.take ((wrap64 (a0_3 + 1)) : Int).toNat).drop ((rd t397 a0_3) : Int).toNat : List (S38))).bind fun y404 => (if y401.length + y404.length < 4398046511104 then (if a0_3 < (t394.length : Int) then ((side_Check.f kj21 l0_0 (y401 ++ y404) (rd t394 a0_3)).bind fun bt412 => (if t390 = true then (some (bt412.2 == 0)) else (some false))) else (none)) else (none))) else (none)) else (none)) else (none))) else (none)) else (none)) = some r := H
                have A26 := Aside0.mk A260
                clear A260
                by_cases c27 : 0 ≤ a0_3
                · rw [if_pos c27] at H
                  have c27b0 : decide (0 ≤ a0_3) = true := decide_eq_true c27
                  clear c27
                  by_cases c28 : a0_3 < (t397.length : Int)
                  · rw [if_pos c28] at H
                    have c28b0 : decide (a0_3 < (t397.length : Int)) = true := decide_eq_true c28
                    clear c28
                    obtain ⟨y401, hy401⟩ : ∃ y_ : List (S38), y_ = (([] : List (S38))) := ⟨_, rfl⟩
                    replace H : (if 0 ≤ (rd t397 a0_3) then (if (rd t397 a0_3) ≤ (wrap64 (a0_3 + 1)) then (if (wrap64 (a0_3 + 1)) ≤ (l0_1.length : Int) then ((some ((l0_1.take ((wrap64 (a0_3 + 1)) : Int).toNat).drop ((rd t397 a0_3) : Int).toNat : List (S38))).bind fun y404 => (if y401.length + y404.length < 4398046511104 then (if a0_3 < (t394.length : Int) then ((side_Check.f kj21 l0_0 (y401 ++ y404) (rd t394 a0_3)).bind fun bt412 => (if t390 = true then (some (bt412.2 == 0)) else (some false))) else (none)) else (none))) else (none)) else (none)) else (none)) = some r := by first | (rw [hy401]; with_reducible exact H) | (have H2_ := (Option.bind_some _ _).symm.trans H; rw [hy401]; with_reducible exact H2_) | (have H2_ := (Option.bind_some _ _).symm.trans H; with_reducible exact H2_) | with_reducible exact H | (rw [hy401]; exact H) | exact H
                    have Ny401 := Aside0.mk hy401
                    clear hy401
                    by_cases c29 : 0 ≤ (rd t397 a0_3)
                    · rw [if_pos c29] at H
                      have c29b0 := eq_true c29
                      have c29b1 : decide (0 ≤ (rd t397 a0_3)) = true := decide_eq_true c29
                      clear c29
                      by_cases c30 : (rd t397 a0_3) ≤ (wrap64 (a0_3 + 1))
                      · rw [if_pos c30] at H
                        have c30b0 := eq_true c30
                        have c30b1 : decide ((rd t397 a0_3) ≤ (wrap64 (a0_3 + 1))) = true := decide_eq_true c30
                        by_cases c31 : (wrap64 (a0_3 + 1)) ≤ (l0_1.length : Int)
                        · rw [if_pos c31] at H
                          have c31b0 := eq_true c31
                          have c31b1 : decide ((wrap64 (a0_3 + 1)) ≤ (l0_1.length : Int)) = true := decide_eq_true c31
                          obtain ⟨y404, hy404⟩ : ∃ y_ : List (S38), y_ = ((l0_1.take ((wrap64 (a0_3 + 1)) : Int).toNat).drop ((rd t397 a0_3) : Int).toNat) := ⟨_, rfl⟩
                          replace H : (if y401.length + y404.length < 4398046511104 then (if a0_3 < (t394.length : Int) then ((side_Check.f kj21 l0_0 (y401 ++ y404) (rd t394 a0_3)).bind fun bt412 => (if t390 = true then (some (bt412.2 == 0)) else (some false))) else (none)) else (none)) = some r := by first | (rw [hy404]; with_reducible exact H) | (have H2_ := (Option.bind_some _ _).symm.trans H; rw [hy404]; with_reducible exact H2_) | (have H2_ := (Option.bind_some _ _).symm.trans H; with_reducible exact H2_) | with_reducible exact H | (rw [hy404]; exact H) | exact H
                          have Ny404 := Aside0.mk hy404
                          clear hy404
                          by_cases c32 : y401.length + y404.length < 4398046511104
                          · rw [if_pos c32] at H
                            have LMc32 := Aside0.mk c32
                            clear c32
                            obtain ⟨y408, hy408⟩ : ∃ y_ : List (S38), y_ = (y401 ++ y404) := ⟨_, rfl⟩
                            replace H : (if a0_3 < (t394.length : Int) then ((side_Check.f kj21 l0_0 y408 (rd t394 a0_3)).bind fun bt412 => (if t390 = true then (some (bt412.2 == 0)) else (some false))) else (none)) = some r := by first | (rw [hy408]; with_reducible exact H) | (have H2_ := (Option.bind_some _ _).symm.trans H; rw [hy408]; with_reducible exact H2_) | (have H2_ := (Option.bind_some _ _).symm.trans H; with_reducible exact H2_) | with_reducible exact H | (rw [hy408]; exact H) | exact H
                            have Ny408 := Aside0.mk hy408
                            clear hy408
                            by_cases c33 : a0_3 < (t394.length : Int)
                            · rw [if_pos c33] at H
                              have c33b0 : decide (a0_3 < (t394.length : Int)) = true := decide_eq_true c33
                              clear c33
                              replace H := Option.bind_eq_some_iff.mp H
                              obtain ⟨⟨t412, t413⟩, A340, H⟩ := H
                              replace H : (if t390 = true then (some (t413 == 0)) else (some false)) = some r := H
                              have A34 := Aside0.mk A340
                              clear A340
                              by_cases c35 : t390 = true
                              · subst c35
                                have H1 : (some (t413 == 0)) = some r := by rw [if_pos rfl] at H; exact H
                                clear H
                                have H := H1
                                clear H1
                                obtain rfl := Option.some.inj H
                                try go_wp2_with (first | ((with_reducible refine gate_callee (f := 19) rfl ?_); refine goesL_ (some 75) rfl rfl Try.func19 (by kernel_rfl) rfl #[.slice A0_1 l0_1.length c0_1] rfl (by (try simp only [List.map_toArray, List.map_cons, List.map_nil]); first | done | rfl | (simp only [List.length_drop, List.length_take]; rfl)) ?_; (with_reducible refine (tammyref07_Starts.calls kj21 _ _ l0_1 t397 _ ?side1 ?side2 A26.out).mono ?_); (case side1 => repeat (first | exact (Kd.C_below HR0_1.out HB.out) | (with_reducible refine Kd.C_alloc ?_ _) | (with_reducible refine Kd.C_drewN ?_ _) | (with_reducible refine Kd.C_drew ?_))); (case side2 => exact HC0_1.out); rintro e w36 ⟨v398, rfl, ho0, hb⟩; refine ⟨_, rfl, ?_⟩; have n0_ := Aside0.mk (Kd.R_below (by (with_reducible repeat (first | apply Kd.R_alloc | apply Kd.R_drewN | apply Kd.R_drew)); exact HO_10.out) hb); have n1_ := Aside0.mk (Kd.R_lower ho0 (below_size (by repeat (first | (with_reducible first | exact HB.out | apply below_alloc | apply pw_below_drewN | apply below_drew1 | refine below_set ?_ GE389.out) | exact HB.out)))); have n2_ := Aside0.mk (blk_below (g := gb389) (o := .cells #[.slice A0_0 l0_0.length c0_0, .slice A0_1 l0_1.length c0_1, .int .u8 a0_2, .int .i64 a0_3] 47 (0, 0)) (by (with_reducible repeat (first | refine blk_drewN ?_ _ | refine blk_drew ?_ | refine blk_alloc ?_ _)); exact BK389.out) hb); have n3_ := Aside0.mk (below_step (by repeat (first | (with_reducible first | exact HB.out | apply below_alloc | apply pw_below_drewN | apply below_drew1 | refine below_set ?_ GE389.out) | exact HB.out)) hb); clear HO_10; clear BK389; clear HB; have HO_10 := n0_; have HO399 := n1_; have BK389 := n2_; have HB := n3_; clear n0_ n1_ n2_ n3_; (try clear hb); (try clear hb2); (try clear hk); (try clear hi); (try clear ho0); obtain ⟨Ao37, co37, eo37⟩ := Kd.R_slice HO399.out; subst eo37; have p400 : 0 ≤ (a0_3 : Int) := of_decide_eq_true (by first | (with_reducible assumption) | assumption); have q400 : a0_3 < (t397.length : Int) := of_decide_eq_true (by first | (with_reducible assumption) | assumption); obtain ⟨ad400, e400, hx400_0⟩ := Kd.at_int (Kd.R_reads' HO399.out).2.2 a0_3 p400 q400; cases e400; replace p400 := eq_true p400; replace q400 := eq_true q400))
                                have n0_ := Aside0.mk (Kd.R_drew HO_10.out)
                                have n1_ := Aside0.mk (Kd.R_drew HO399.out)
                                have n2_ := Aside0.mk (blk_drew BK389.out)
                                have n3_ := Aside0.mk (below_drew1 HB.out)
                                clear HO_10
                                clear HO399
                                clear BK389
                                clear HB
                                have HO_10 := n0_
                                have HO399 := n1_
                                have BK389 := n2_
                                have HB := n3_
                                clear n0_ n1_ n2_ n3_
                                have q39 : ((wrap64 (a0_3 + 1)) : Int) ≤ ((l0_1.length : Int) : Int) := of_decide_eq_true (by first | (with_reducible assumption) | assumption)
                                obtain ⟨i039, hi039, _, hsz39, _⟩ := info_parts info38
                                have hroom39 : l0_1.length ≤ c0_1 := HC0_1.out
                                have hC39 : Kd.C k38 _ A0_1 l0_1.length l0_1 := HR0_1.out
                                have ql39 : ((rd t397 a0_3) : Int) ≤ ((wrap64 (a0_3 + 1)) : Int) := of_decide_eq_true (by first | (with_reducible assumption) | assumption)
                                have q039 : (0 : Int) ≤ ((rd t397 a0_3) : Int) := of_decide_eq_true (by first | (with_reducible assumption) | assumption)
                                have hcut39 := cut_mid (P := Try.prog) 23 38 .i64 .i64 Try.underlying23 hi039 3 hsz39 A0_1 l0_1.length c0_1 (rd t397 a0_3) (wrap64 (a0_3 + 1)) q039 ql39 q39 hroom39
                                have hr39 := Kd.C_mid (lo := ((rd t397 a0_3) : Int).toNat) (hi := ((wrap64 (a0_3 + 1)) : Int).toNat) (c := c0_1) hC39 (by omega) (by omega) hroom39
                                obtain ⟨A39, hA39⟩ : ∃ A1, A1 = (if c0_1 = ((rd t397 a0_3) : Int).toNat then A0_1 else (A0_1 : Option Addr).map (·.add (((rd t397 a0_3) : Int).toNat * 3))) := ⟨_, rfl⟩
                                obtain ⟨c39, hc39⟩ : ∃ c1, c1 = c0_1 - ((rd t397 a0_3) : Int).toNat := ⟨_, rfl⟩
                                have hy39 : y404.length = ((wrap64 (a0_3 + 1)) : Int).toNat - ((rd t397 a0_3) : Int).toNat := (by rw [Ny404.out, List.length_drop, List.length_take] <;> omega)
                                rw [show ((l0_1).take ((wrap64 (a0_3 + 1)) : Int).toNat).drop ((rd t397 a0_3) : Int).toNat = y404 from Ny404.out.symm] at hr39
                                replace hr39 : Kd.C k38 _ A39 y404.length y404 := (by rw [hA39]; exact hr39)
                                rw [← hy39, ← hA39, ← hc39] at hcut39
                                have HR407 := Aside0.mk hr39
                                have HC407 := Aside0.mk (show y404.length ≤ c39 from by rw [hy39, hc39]; exact Nat.sub_le_sub_right (Nat.le_trans (by omega) hroom39) _)
                                clear hr39 hC39 hroom39 hi039 hsz39 hc39
                                have KY39 := Aside0.mk hy39
                                have KA39 := Aside0.mk hA39
                                clear hy39 hA39
                                replace q39 := eq_true q39
                                obtain ⟨Ao40, co40, eo40⟩ := Kd.R_slice HO_10.out
                                (first | subst eo40 | (injection eo40 with f1_ f2_ f3_; have f4_ := f1_.symm; have f5_ := f3_.symm; clear f1_ f2_ f3_; subst f4_; subst f5_))
                                have p411 : 0 ≤ (a0_3 : Int) := of_decide_eq_true (by first | (with_reducible assumption) | assumption)
                                have q411 : a0_3 < (t394.length : Int) := of_decide_eq_true (by first | (with_reducible assumption) | assumption)
                                obtain ⟨ad411, e411, hx411_0⟩ := Kd.at_int (Kd.R_reads' HO_10.out).2.2 a0_3 p411 q411
                                cases e411
                                replace p411 := eq_true p411
                                replace q411 := eq_true q411
                                refine start_ (n := 18) (S := fun w' => w'.cell? (ad411.add (a0_3).toNat) = some (.int .u8 (rd t394 a0_3))) (ds := []) #[false, false, false, false, false, false, false, false, false, false, false, false, false, false, false, false, false, false] (by kernel_rfl) rfl rfl (hx411_0) (fun hHeld => ?_); refine with_tabW tammylaw08_SideFirst.tab15 tammylaw08_SideFirst.bits15 (fun HT_ HW_ => ?_)
                                generalize w36.drew = w38 at HO_10 HO399 BK389 HB HR407 hx411_0 hHeld ⊢
                                refine pure_ (i := 0) (N := some 80) (v := ?_) (a' := ?_) #[true, false, false, false, false, false, false, false, false, false, false, false, false, false, false, false, false, false] rfl rfl (any_of HT_.out (by kernel_rfl)) (fun _ _ _ h => h) (Or.inl ⟨by rfl, ?_⟩) ?_ ?_
                                rotate_left
                                · intro w'
                                  go_simp
                                  with_reducible rfl
                                rotate_left
                                · simp only [Act.put, List.setIfInBounds_toArray, List.set_cons_zero, List.set_cons_succ, i64_w, i32_w]
                                  rfl
                                refine pure_ (i := 2) (N := some 82) (v := ?_) (a' := ?_) #[true, false, true, false, false, false, false, false, false, false, false, false, false, false, false, false, false, false] rfl rfl (any_of HT_.out (by kernel_rfl)) (fun _ _ _ h => h) (Or.inl ⟨by rfl, ?_⟩) ?_ ?_
                                rotate_left
                                · intro w'
                                  go_simp
                                  with_reducible rfl
                                rotate_left
                                · simp only [Act.put, List.setIfInBounds_toArray, List.set_cons_zero, List.set_cons_succ, i64_w, i32_w]
                                  rfl
                                refine pure_ (i := 3) (N := some 83) (v := ?_) (a' := ?_) #[true, false, true, true, false, false, false, false, false, false, false, false, false, false, false, false, false, false] rfl rfl (any_of HT_.out (by kernel_rfl)) (fun _ _ _ h => h) (Or.inl ⟨by rfl, ?_⟩) ?_ ?_
                                rotate_left
                                · intro w'
                                  go_simp
                                  with_reducible rfl
                                rotate_left
                                · simp only [Act.put, List.setIfInBounds_toArray, List.set_cons_zero, List.set_cons_succ, i64_w, i32_w]
                                  rfl
                                refine pure_ (i := 4) (N := some 84) (v := ?_) (a' := ?_) #[true, false, true, true, true, false, false, false, false, false, false, false, false, false, false, false, false, false] rfl rfl (any_of HT_.out (by kernel_rfl)) (fun _ _ _ h => h) (Or.inl ⟨by rfl, ?_⟩) ?_ ?_
                                rotate_left
                                · intro w'
                                  go_simp
                                  with_reducible rfl
                                rotate_left
                                · simp only [Act.put, List.setIfInBounds_toArray, List.set_cons_zero, List.set_cons_succ, i64_w, i32_w]
                                  rfl
                                refine pure_ (i := 5) (N := some 85) (v := ?_) (a' := ?_) #[true, false, true, true, true, true, false, false, false, false, false, false, false, false, false, false, false, false] rfl rfl (any_of HT_.out (by kernel_rfl)) (fun _ _ _ h => h) (Or.inl ⟨by rfl, ?_⟩) ?_ ?_
                                rotate_left
                                · intro w'
                                  go_simp
                                  with_reducible rfl
                                rotate_left
                                · simp only [Act.put, List.setIfInBounds_toArray, List.set_cons_zero, List.set_cons_succ, i64_w, i32_w]
                                  rfl
                                refine pure_ (i := 6) (N := some 86) (v := ?_) (a' := ?_) #[true, false, true, true, true, true, true, false, false, false, false, false, false, false, false, false, false, false] rfl rfl (any_of HT_.out (by kernel_rfl)) (fun _ _ _ h => h) (Or.inl ⟨by rfl, ?_⟩) ?_ ?_
                                rotate_left
                                · intro w'
                                  go_simp
                                  with_reducible rfl
                                rotate_left
                                · simp only [Act.put, List.setIfInBounds_toArray, List.set_cons_zero, List.set_cons_succ, i64_w, i32_w]
                                  rfl
                                refine pure_ (i := 8) (N := some 88) (v := ?_) (a' := ?_) #[true, false, true, true, true, true, true, false, true, false, false, false, false, false, false, false, false, false] rfl rfl (any_of HT_.out (by kernel_rfl)) (fun _ _ _ h => h) (Or.inl ⟨by rfl, ?_⟩) ?_ ?_
                                rotate_left
                                · intro w'
                                  go_simp
                                  with_reducible rfl
                                rotate_left
                                · simp only [Act.put, List.setIfInBounds_toArray, List.set_cons_zero, List.set_cons_succ, i64_w, i32_w]
                                  rfl
                                refine pure_ (i := 9) (N := some 89) (v := ?_) (a' := ?_) #[true, false, true, true, true, true, true, false, true, true, false, false, false, false, false, false, false, false] rfl rfl (any_of HT_.out (by kernel_rfl)) (fun _ _ _ h => h) (Or.inl ⟨by rfl, ?_⟩) ?_ ?_
                                rotate_left
                                · intro w'
                                  go_simp
                                  with_reducible rfl
                                rotate_left
                                · simp only [Act.put, List.setIfInBounds_toArray, List.set_cons_zero, List.set_cons_succ, i64_w, i32_w]
                                  rfl
                                refine pure_ (i := 10) (N := some 90) (v := ?_) (a' := ?_) #[true, false, true, true, true, true, true, false, true, true, true, false, false, false, false, false, false, false] rfl rfl (any_of HT_.out (by kernel_rfl)) (fun _ _ _ h => h) (Or.inl ⟨by rfl, ?_⟩) ?_ ?_
                                rotate_left
                                · intro w'
                                  go_simp
                                  with_reducible rfl
                                rotate_left
                                · simp only [Act.put, List.setIfInBounds_toArray, List.set_cons_zero, List.set_cons_succ, i64_w, i32_w]
                                  rfl
                                refine take_ (i := 11) (N := some 91) (v := ?_) (a' := ?_) #[true, false, true, true, true, true, true, false, true, true, true, true, false, false, false, false, false, false] rfl rfl (take_ofW HT_.out HW_.out (by kernel_rfl)) (fun _ _ _ h => h) (Or.inl ⟨by rfl, ?_⟩) hHeld ?_ ?_
                                rotate_left
                                · intro w' s0
                                  go_simp
                                  with_reducible rfl
                                rotate_left
                                · simp only [Act.put, List.setIfInBounds_toArray, List.set_cons_zero, List.set_cons_succ, i64_w, i32_w]
                                  rfl
                                refine one_ (i := 1) (N := some 81) #[true, true, true, true, true, true, true, false, true, true, true, true, false, false, false, false, false, false] rfl rfl (one_of HT_.out (by kernel_rfl)) (by decide) (fun K hK => ?_)
                                refine Kd.R_lit_step k38 _ 38 ?hg (N := 81) ?hd (xs := ([] : List (S38))) (inner := []) (ok := fun _ => True) (okp := fun _ => True) ?hr ?hp (fun _ hk => hk) trivial (Below.refl _ _) (Nat.le_refl _) (by simp) ?_; (case hd => rfl); (case hg => rfl); (case hr => first | (go_simp; done) | (go_simp; rfl)); (case hp => exact (Reps.none _ _))
                                intro v402 w41 ho42 hb hg_ hnew_
                                have HS0_ := (hb.cell (World.block_lt_of_cell? _ _ (hHeld))).trans (hHeld)
                                clear hg_ hnew_
                                (first | rw [← Ny401.out] at ho42 | (simp only [Int.reduceToNat] at ho42; rw [← Ny401.out] at ho42))
                                have n0_ := Aside0.mk (Kd.R_below (by (with_reducible repeat (first | apply Kd.R_alloc | apply Kd.R_drewN | apply Kd.R_drew)); exact HO_10.out) hb)
                                have n1_ := Aside0.mk (Kd.R_below (by (with_reducible repeat (first | apply Kd.R_alloc | apply Kd.R_drewN | apply Kd.R_drew)); exact HO399.out) hb)
                                have n2_ := Aside0.mk (Kd.R_lower ho42 (below_size (by repeat (first | (with_reducible first | exact HB.out | apply below_alloc | apply pw_below_drewN | apply below_drew1 | refine below_set ?_ GE389.out) | exact HB.out))))
                                have n3_ := Aside0.mk (blk_below (g := gb389) (o := .cells #[.slice A0_0 l0_0.length c0_0, .slice A0_1 l0_1.length c0_1, .int .u8 a0_2, .int .i64 a0_3] 47 (0, 0)) (by (with_reducible repeat (first | refine blk_drewN ?_ _ | refine blk_drew ?_ | refine blk_alloc ?_ _)); exact BK389.out) hb)
                                have n4_ := Aside0.mk (below_step (by repeat (first | (with_reducible first | exact HB.out | apply below_alloc | apply pw_below_drewN | apply below_drew1 | refine below_set ?_ GE389.out) | exact HB.out)) hb)
                                clear HO_10
                                clear HO399
                                clear BK389
                                clear HB
                                have HO_10 := n0_
                                have HO399 := n1_
                                have HO403 := n2_
                                have BK389 := n3_
                                have HB := n4_
                                clear n0_ n1_ n2_ n3_ n4_
                                clear hb ho42
                                refine hK.out _ _ (HS0_) (fun hHeld => ?_)
                                clear hK K
                                refine norm_ (a' := ?_) ?_ ?_
                                rotate_left
                                · show Act.put _ (some 81) _ = _
                                  simp only [Act.put, List.setIfInBounds_toArray, List.set_cons_zero, List.set_cons_succ, i64_w, i32_w]
                                  rfl
                                refine one_ (i := 7) (N := some 87) #[true, true, true, true, true, true, true, true, true, true, true, true, false, false, false, false, false, false] rfl rfl (one_of HT_.out (by kernel_rfl)) (by decide) (fun K hK => ?_)
                                refine Kd.R_append_rows_step k38 (w0 := w) w.heap.size (by rfl) (.tmp 81) (.tmp 86) 23 38 (.agg #[(.int .i64 0), (.string ⟨#[]⟩), (.int .i64 0)]) 32 rfl Try.underlying23 info38 rfl (by decide) (by omega) v402 y401 y404 _ _ _ (fun _ => True) (fun _ => False) rfl rfl ?aO ?aR (fun _ _ h => h) (fun _ h => h.elim) ?aF ?aB ?aS ?aL ?_
                                (case aR => repeat (first | exact (Kd.C_below HR407.out HB.out) | (with_reducible refine Kd.C_alloc ?_ _) | (with_reducible refine Kd.C_drewN ?_ _) | (with_reducible refine Kd.C_drew ?_)))
                                (case aB => exact (by repeat (first | (with_reducible first | exact HB.out | apply below_alloc | apply pw_below_drewN | apply below_drew1 | refine below_set ?_ GE389.out) | exact HB.out)))
                                (case aF => exact (fun _ _ => trivial))
                                (case aO => exact (by (with_reducible repeat (first | apply Kd.R_alloc | apply Kd.R_drewN | apply Kd.R_drew)); exact HO403.out))
                                (case aS => exact (below_size (by repeat (first | (with_reducible first | exact HB.out | apply below_alloc | apply pw_below_drewN | apply below_drew1 | refine below_set ?_ GE389.out) | exact HB.out))))
                                (case aL => have := LMc32.out; omega)
                                intro v409 w43 ho hb hg hat
                                have HS0_ := Kd.cell_apart (by (with_reducible repeat (first | apply Kd.R_alloc | apply Kd.R_drewN | apply Kd.R_drew)); exact HO403.out) (by (with_reducible repeat (first | apply Kd.R_alloc | apply Kd.R_drewN | apply Kd.R_drew)); exact HO_10.out) (by decide) hg (hHeld)
                                rw [← Ny408.out] at ho
                                have n0_ := Aside0.mk (Kd.R_over' (by (with_reducible repeat (first | apply Kd.R_alloc | apply Kd.R_drewN | apply Kd.R_drew)); exact HO_10.out) (Kd.R_typed (by (with_reducible repeat (first | apply Kd.R_alloc | apply Kd.R_drewN | apply Kd.R_drew)); exact HO403.out)) (by decide) hg)
                                have n1_ := Aside0.mk (blk_grown (g := gb389) (o := .cells #[.slice A0_0 l0_0.length c0_0, .slice A0_1 l0_1.length c0_1, .int .u8 a0_2, .int .i64 a0_3] 47 (0, 0)) (by (with_reducible repeat (first | refine blk_drewN ?_ _ | refine blk_drew ?_ | refine blk_alloc ?_ _)); exact BK389.out) hg (Kd.R_ne HO403.out BK389.out (by decide)))
                                have n2_ := Aside0.mk (Kd.R_over' (by (with_reducible repeat (first | apply Kd.R_alloc | apply Kd.R_drewN | apply Kd.R_drew)); exact HO399.out) (Kd.R_typed (by (with_reducible repeat (first | apply Kd.R_alloc | apply Kd.R_drewN | apply Kd.R_drew)); exact HO403.out)) (by decide) hg)
                                have n3_ := Aside0.mk (hb)
                                have n4_ := Aside0.mk (ho)
                                clear HO_10
                                clear BK389
                                clear HO399
                                clear HB
                                clear HO403
                                have HO_10 := n0_
                                have BK389 := n1_
                                have HO399 := n2_
                                have HB := n3_
                                have HO410 := n4_
                                clear n0_ n1_ n2_ n3_ n4_
                                clear ho hb hg hat
                                obtain ⟨Ao44, co44, eo44⟩ := Kd.R_slice HO410.out
                                (first | subst eo44 | (injection eo44 with f1_ f2_ f3_; have f4_ := f1_.symm; have f5_ := f3_.symm; clear f1_ f2_ f3_; subst f4_; subst f5_))
                                refine hK.out _ _ (HS0_) (fun hHeld => ?_)
                                clear hK K
                                refine norm_ (a' := ?_) ?_ ?_
                                rotate_left
                                · show Act.put _ (some 87) _ = _
                                  simp only [Act.put, List.setIfInBounds_toArray, List.set_cons_zero, List.set_cons_succ, i64_w, i32_w]
                                  rfl
                                refine one_ (i := 12) (N := some 92) #[true, true, true, true, true, true, true, true, true, true, true, true, true, false, false, false, false, false] rfl rfl (one_of HT_.out (by kernel_rfl)) (by decide) (fun K hK => ?_)
                                refine goes_ Try.func12 (by kernel_rfl) rfl #[.slice A0_0 l0_0.length c0_0, .slice Ao44 y408.length co44, .int .u8 (rd t394 a0_3)] (by rfl) rfl rfl (by (try simp only [List.map_toArray, List.map_cons, List.map_nil]); first | done | rfl | (simp only [List.length_drop, List.length_take]; rfl)) ?_
                                with_reducible refine (side_Check.calls kj21 _ _ l0_0 _ _ y408 (rd t394 a0_3) t412 t413 _ ?side1 ?side2 ?side3 ?side4 A34.out).mono ?_
                                (case side1 => repeat (first | exact (Kd.C_below HR0_0.out HB.out) | (with_reducible refine Kd.C_alloc ?_ _) | (with_reducible refine Kd.C_drewN ?_ _) | (with_reducible refine Kd.C_drew ?_)))
                                (case side2 => exact HC0_0.out)
                                (case side3 => repeat (first | exact (Kd.R_reads' HO410.out).2.2 | (with_reducible refine Kd.C_alloc ?_ _) | (with_reducible refine Kd.C_drewN ?_ _) | (with_reducible refine Kd.C_drew ?_)))
                                (case side4 => exact (Kd.R_reads' HO410.out).2.1)
                                rintro e w45 ⟨rfl, hb⟩
                                have HS0_ := (hb.cell (World.block_lt_of_cell? _ _ (hHeld))).trans (hHeld)
                                refine ⟨_, rfl, ?_⟩
                                have n0_ := Aside0.mk (Kd.R_below (by (with_reducible repeat (first | apply Kd.R_alloc | apply Kd.R_drewN | apply Kd.R_drew)); exact HO_10.out) hb)
                                have n1_ := Aside0.mk (Kd.R_below (by (with_reducible repeat (first | apply Kd.R_alloc | apply Kd.R_drewN | apply Kd.R_drew)); exact HO399.out) hb)
                                have n2_ := Aside0.mk (Kd.R_below (by (with_reducible repeat (first | apply Kd.R_alloc | apply Kd.R_drewN | apply Kd.R_drew)); exact HO410.out) hb)
                                have n3_ := Aside0.mk (blk_below (g := gb389) (o := .cells #[.slice A0_0 l0_0.length c0_0, .slice A0_1 l0_1.length c0_1, .int .u8 a0_2, .int .i64 a0_3] 47 (0, 0)) (by (with_reducible repeat (first | refine blk_drewN ?_ _ | refine blk_drew ?_ | refine blk_alloc ?_ _)); exact BK389.out) hb)
                                have n4_ := Aside0.mk (below_step (by repeat (first | (with_reducible first | exact HB.out | apply below_alloc | apply pw_below_drewN | apply below_drew1 | refine below_set ?_ GE389.out) | exact HB.out)) hb)
                                clear HO_10
                                clear HO399
                                clear HO410
                                clear BK389
                                clear HB
                                have HO_10 := n0_
                                have HO399 := n1_
                                have HO410 := n2_
                                have BK389 := n3_
                                have HB := n4_
                                clear n0_ n1_ n2_ n3_ n4_
                                (try clear hb)
                                (try clear hb2)
                                (try clear hk)
                                (try clear hi)
                                refine hK.out _ _ (HS0_) (fun hHeld => ?_)
                                clear hK K
                                refine norm_ (a' := ?_) ?_ ?_
                                rotate_left
                                · show Act.put _ (some 92) _ = _
                                  simp only [Act.put, List.setIfInBounds_toArray, List.set_cons_zero, List.set_cons_succ, i64_w, i32_w]
                                  rfl
                                refine pure_ (i := 13) (N := some 79) (v := ?_) (a' := ?_) #[true, true, true, true, true, true, true, true, true, true, true, true, true, true, false, false, false, false] rfl rfl (any_of HT_.out (by kernel_rfl)) (fun _ _ _ h => h) (Or.inl ⟨by rfl, ?_⟩) ?_ ?_
                                rotate_left
                                · intro w'
                                  go_simp
                                  with_reducible rfl
                                rotate_left
                                · simp only [Act.put, List.setIfInBounds_toArray, List.set_cons_zero, List.set_cons_succ, i64_w, i32_w]
                                  rfl
                                refine pure_ (i := 14) (N := some 93) (v := ?_) (a' := ?_) #[true, true, true, true, true, true, true, true, true, true, true, true, true, true, true, false, false, false] rfl rfl (any_of HT_.out (by kernel_rfl)) (fun _ _ _ h => h) (Or.inl ⟨by rfl, ?_⟩) ?_ ?_
                                rotate_left
                                · intro w'
                                  go_simp
                                  with_reducible rfl
                                rotate_left
                                · simp only [Act.put, List.setIfInBounds_toArray, List.set_cons_zero, List.set_cons_succ, i64_w, i32_w]
                                  rfl
                                refine pure_ (i := 15) (N := some 94) (v := ?_) (a' := ?_) #[true, true, true, true, true, true, true, true, true, true, true, true, true, true, true, true, false, false] rfl rfl (any_of HT_.out (by kernel_rfl)) (fun _ _ _ h => h) (Or.inl ⟨by rfl, ?_⟩) ?_ ?_
                                rotate_left
                                · intro w'
                                  go_simp
                                  with_reducible rfl
                                rotate_left
                                · simp only [Act.put, List.setIfInBounds_toArray, List.set_cons_zero, List.set_cons_succ, i64_w, i32_w]
                                  rfl
                                refine pure_ (i := 16) (N := some 12) (v := ?_) (a' := ?_) #[true, true, true, true, true, true, true, true, true, true, true, true, true, true, true, true, true, false] rfl rfl (any_of HT_.out (by kernel_rfl)) (fun _ _ _ h => h) (Or.inl ⟨by rfl, ?_⟩) ?_ ?_
                                rotate_left
                                · intro w'
                                  go_simp
                                  with_reducible rfl
                                rotate_left
                                · simp only [Act.put, List.setIfInBounds_toArray, List.set_cons_zero, List.set_cons_succ, i64_w, i32_w]
                                  rfl
                                refine pure_ (i := 17) (N := some 13) (v := ?_) (a' := ?_) #[true, true, true, true, true, true, true, true, true, true, true, true, true, true, true, true, true, true] rfl rfl (any_of HT_.out (by kernel_rfl)) (fun _ _ _ h => h) (Or.inl ⟨by rfl, ?_⟩) ?_ ?_
                                rotate_left
                                · intro w'
                                  go_simp
                                  with_reducible rfl
                                rotate_left
                                · simp only [Act.put, List.setIfInBounds_toArray, List.set_cons_zero, List.set_cons_succ, i64_w, i32_w]
                                  rfl
                                refine done_ (done_of HT_.out (by kernel_rfl)) ?_
                                try go_wp2
                                go_ret
                                exact ⟨by first | rfl | (simp [errW_none, errW_some] <;> rfl) | (simp [*, errW_none, errW_some] <;> rfl), by repeat (first | (with_reducible first | exact HB.out | apply below_alloc | apply pw_below_drewN | apply below_drew1 | refine below_set ?_ GE389.out) | exact HB.out)⟩
                              · replace c35 := Bool.eq_false_iff.mpr c35
                                subst c35
                                have H1 : (some false) = some r := by rw [if_neg (show ¬ (false = true) by decide)] at H; exact H
                                clear H
                                have H := H1
                                clear H1
                                obtain rfl := Option.some.inj H
                                try go_wp2_with (first | ((with_reducible refine gate_callee (f := 19) rfl ?_); refine goesL_ (some 75) rfl rfl Try.func19 (by kernel_rfl) rfl #[.slice A0_1 l0_1.length c0_1] rfl (by (try simp only [List.map_toArray, List.map_cons, List.map_nil]); first | done | rfl | (simp only [List.length_drop, List.length_take]; rfl)) ?_; (with_reducible refine (tammyref07_Starts.calls kj21 _ _ l0_1 t397 _ ?side1 ?side2 A26.out).mono ?_); (case side1 => repeat (first | exact (Kd.C_below HR0_1.out HB.out) | (with_reducible refine Kd.C_alloc ?_ _) | (with_reducible refine Kd.C_drewN ?_ _) | (with_reducible refine Kd.C_drew ?_))); (case side2 => exact HC0_1.out); rintro e w46 ⟨v398, rfl, ho0, hb⟩; refine ⟨_, rfl, ?_⟩; have n0_ := Aside0.mk (Kd.R_below (by (with_reducible repeat (first | apply Kd.R_alloc | apply Kd.R_drewN | apply Kd.R_drew)); exact HO_10.out) hb); have n1_ := Aside0.mk (Kd.R_lower ho0 (below_size (by repeat (first | (with_reducible first | exact HB.out | apply below_alloc | apply pw_below_drewN | apply below_drew1 | refine below_set ?_ GE389.out) | exact HB.out)))); have n2_ := Aside0.mk (blk_below (g := gb389) (o := .cells #[.slice A0_0 l0_0.length c0_0, .slice A0_1 l0_1.length c0_1, .int .u8 a0_2, .int .i64 a0_3] 47 (0, 0)) (by (with_reducible repeat (first | refine blk_drewN ?_ _ | refine blk_drew ?_ | refine blk_alloc ?_ _)); exact BK389.out) hb); have n3_ := Aside0.mk (below_step (by repeat (first | (with_reducible first | exact HB.out | apply below_alloc | apply pw_below_drewN | apply below_drew1 | refine below_set ?_ GE389.out) | exact HB.out)) hb); clear HO_10; clear BK389; clear HB; have HO_10 := n0_; have HO399 := n1_; have BK389 := n2_; have HB := n3_; clear n0_ n1_ n2_ n3_; (try clear hb); (try clear hb2); (try clear hk); (try clear hi); (try clear ho0); obtain ⟨Ao47, co47, eo47⟩ := Kd.R_slice HO399.out; subst eo47; have p400 : 0 ≤ (a0_3 : Int) := of_decide_eq_true (by first | (with_reducible assumption) | assumption); have q400 : a0_3 < (t397.length : Int) := of_decide_eq_true (by first | (with_reducible assumption) | assumption); obtain ⟨ad400, e400, hx400_0⟩ := Kd.at_int (Kd.R_reads' HO399.out).2.2 a0_3 p400 q400; cases e400; replace p400 := eq_true p400; replace q400 := eq_true q400))
                                have n0_ := Aside0.mk (Kd.R_drew HO_10.out)
                                have n1_ := Aside0.mk (Kd.R_drew HO399.out)
                                have n2_ := Aside0.mk (blk_drew BK389.out)
                                have n3_ := Aside0.mk (below_drew1 HB.out)
                                clear HO_10
                                clear HO399
                                clear BK389
                                clear HB
                                have HO_10 := n0_
                                have HO399 := n1_
                                have BK389 := n2_
                                have HB := n3_
                                clear n0_ n1_ n2_ n3_
                                have q49 : ((wrap64 (a0_3 + 1)) : Int) ≤ ((l0_1.length : Int) : Int) := of_decide_eq_true (by first | (with_reducible assumption) | assumption)
                                obtain ⟨i049, hi049, _, hsz49, _⟩ := info_parts info38
                                have hroom49 : l0_1.length ≤ c0_1 := HC0_1.out
                                have hC49 : Kd.C k38 _ A0_1 l0_1.length l0_1 := HR0_1.out
                                have ql49 : ((rd t397 a0_3) : Int) ≤ ((wrap64 (a0_3 + 1)) : Int) := of_decide_eq_true (by first | (with_reducible assumption) | assumption)
                                have q049 : (0 : Int) ≤ ((rd t397 a0_3) : Int) := of_decide_eq_true (by first | (with_reducible assumption) | assumption)
                                have hcut49 := cut_mid (P := Try.prog) 23 38 .i64 .i64 Try.underlying23 hi049 3 hsz49 A0_1 l0_1.length c0_1 (rd t397 a0_3) (wrap64 (a0_3 + 1)) q049 ql49 q49 hroom49
                                have hr49 := Kd.C_mid (lo := ((rd t397 a0_3) : Int).toNat) (hi := ((wrap64 (a0_3 + 1)) : Int).toNat) (c := c0_1) hC49 (by omega) (by omega) hroom49
                                obtain ⟨A49, hA49⟩ : ∃ A1, A1 = (if c0_1 = ((rd t397 a0_3) : Int).toNat then A0_1 else (A0_1 : Option Addr).map (·.add (((rd t397 a0_3) : Int).toNat * 3))) := ⟨_, rfl⟩
                                obtain ⟨c49, hc49⟩ : ∃ c1, c1 = c0_1 - ((rd t397 a0_3) : Int).toNat := ⟨_, rfl⟩
                                have hy49 : y404.length = ((wrap64 (a0_3 + 1)) : Int).toNat - ((rd t397 a0_3) : Int).toNat := (by rw [Ny404.out, List.length_drop, List.length_take] <;> omega)
                                rw [show ((l0_1).take ((wrap64 (a0_3 + 1)) : Int).toNat).drop ((rd t397 a0_3) : Int).toNat = y404 from Ny404.out.symm] at hr49
                                replace hr49 : Kd.C k38 _ A49 y404.length y404 := (by rw [hA49]; exact hr49)
                                rw [← hy49, ← hA49, ← hc49] at hcut49
                                have HR407 := Aside0.mk hr49
                                have HC407 := Aside0.mk (show y404.length ≤ c49 from by rw [hy49, hc49]; exact Nat.sub_le_sub_right (Nat.le_trans (by omega) hroom49) _)
                                clear hr49 hC49 hroom49 hi049 hsz49 hc49
                                have KY49 := Aside0.mk hy49
                                have KA49 := Aside0.mk hA49
                                clear hy49 hA49
                                replace q49 := eq_true q49
                                obtain ⟨Ao50, co50, eo50⟩ := Kd.R_slice HO_10.out
                                (first | subst eo50 | (injection eo50 with f1_ f2_ f3_; have f4_ := f1_.symm; have f5_ := f3_.symm; clear f1_ f2_ f3_; subst f4_; subst f5_))
                                have p411 : 0 ≤ (a0_3 : Int) := of_decide_eq_true (by first | (with_reducible assumption) | assumption)
                                have q411 : a0_3 < (t394.length : Int) := of_decide_eq_true (by first | (with_reducible assumption) | assumption)
                                obtain ⟨ad411, e411, hx411_0⟩ := Kd.at_int (Kd.R_reads' HO_10.out).2.2 a0_3 p411 q411
                                cases e411
                                replace p411 := eq_true p411
                                replace q411 := eq_true q411
                                refine start_ (n := 18) (S := fun w' => w'.cell? (ad411.add (a0_3).toNat) = some (.int .u8 (rd t394 a0_3))) (ds := []) #[false, false, false, false, false, false, false, false, false, false, false, false, false, false, false, false, false, false] (by kernel_rfl) rfl rfl (hx411_0) (fun hHeld => ?_); refine with_tabW tammylaw08_SideFirst.tab15 tammylaw08_SideFirst.bits15 (fun HT_ HW_ => ?_)
                                generalize w46.drew = w48 at HO_10 HO399 BK389 HB HR407 hx411_0 hHeld ⊢
                                refine pure_ (i := 0) (N := some 80) (v := ?_) (a' := ?_) #[true, false, false, false, false, false, false, false, false, false, false, false, false, false, false, false, false, false] rfl rfl (any_of HT_.out (by kernel_rfl)) (fun _ _ _ h => h) (Or.inl ⟨by rfl, ?_⟩) ?_ ?_
                                rotate_left
                                · intro w'
                                  go_simp
                                  with_reducible rfl
                                rotate_left
                                · simp only [Act.put, List.setIfInBounds_toArray, List.set_cons_zero, List.set_cons_succ, i64_w, i32_w]
                                  rfl
                                refine pure_ (i := 2) (N := some 82) (v := ?_) (a' := ?_) #[true, false, true, false, false, false, false, false, false, false, false, false, false, false, false, false, false, false] rfl rfl (any_of HT_.out (by kernel_rfl)) (fun _ _ _ h => h) (Or.inl ⟨by rfl, ?_⟩) ?_ ?_
                                rotate_left
                                · intro w'
                                  go_simp
                                  with_reducible rfl
                                rotate_left
                                · simp only [Act.put, List.setIfInBounds_toArray, List.set_cons_zero, List.set_cons_succ, i64_w, i32_w]
                                  rfl
                                refine pure_ (i := 3) (N := some 83) (v := ?_) (a' := ?_) #[true, false, true, true, false, false, false, false, false, false, false, false, false, false, false, false, false, false] rfl rfl (any_of HT_.out (by kernel_rfl)) (fun _ _ _ h => h) (Or.inl ⟨by rfl, ?_⟩) ?_ ?_
                                rotate_left
                                · intro w'
                                  go_simp
                                  with_reducible rfl
                                rotate_left
                                · simp only [Act.put, List.setIfInBounds_toArray, List.set_cons_zero, List.set_cons_succ, i64_w, i32_w]
                                  rfl
                                refine pure_ (i := 4) (N := some 84) (v := ?_) (a' := ?_) #[true, false, true, true, true, false, false, false, false, false, false, false, false, false, false, false, false, false] rfl rfl (any_of HT_.out (by kernel_rfl)) (fun _ _ _ h => h) (Or.inl ⟨by rfl, ?_⟩) ?_ ?_
                                rotate_left
                                · intro w'
                                  go_simp
                                  with_reducible rfl
                                rotate_left
                                · simp only [Act.put, List.setIfInBounds_toArray, List.set_cons_zero, List.set_cons_succ, i64_w, i32_w]
                                  rfl
                                refine pure_ (i := 5) (N := some 85) (v := ?_) (a' := ?_) #[true, false, true, true, true, true, false, false, false, false, false, false, false, false, false, false, false, false] rfl rfl (any_of HT_.out (by kernel_rfl)) (fun _ _ _ h => h) (Or.inl ⟨by rfl, ?_⟩) ?_ ?_
                                rotate_left
                                · intro w'
                                  go_simp
                                  with_reducible rfl
                                rotate_left
                                · simp only [Act.put, List.setIfInBounds_toArray, List.set_cons_zero, List.set_cons_succ, i64_w, i32_w]
                                  rfl
                                refine pure_ (i := 6) (N := some 86) (v := ?_) (a' := ?_) #[true, false, true, true, true, true, true, false, false, false, false, false, false, false, false, false, false, false] rfl rfl (any_of HT_.out (by kernel_rfl)) (fun _ _ _ h => h) (Or.inl ⟨by rfl, ?_⟩) ?_ ?_
                                rotate_left
                                · intro w'
                                  go_simp
                                  with_reducible rfl
                                rotate_left
                                · simp only [Act.put, List.setIfInBounds_toArray, List.set_cons_zero, List.set_cons_succ, i64_w, i32_w]
                                  rfl
                                refine pure_ (i := 8) (N := some 88) (v := ?_) (a' := ?_) #[true, false, true, true, true, true, true, false, true, false, false, false, false, false, false, false, false, false] rfl rfl (any_of HT_.out (by kernel_rfl)) (fun _ _ _ h => h) (Or.inl ⟨by rfl, ?_⟩) ?_ ?_
                                rotate_left
                                · intro w'
                                  go_simp
                                  with_reducible rfl
                                rotate_left
                                · simp only [Act.put, List.setIfInBounds_toArray, List.set_cons_zero, List.set_cons_succ, i64_w, i32_w]
                                  rfl
                                refine pure_ (i := 9) (N := some 89) (v := ?_) (a' := ?_) #[true, false, true, true, true, true, true, false, true, true, false, false, false, false, false, false, false, false] rfl rfl (any_of HT_.out (by kernel_rfl)) (fun _ _ _ h => h) (Or.inl ⟨by rfl, ?_⟩) ?_ ?_
                                rotate_left
                                · intro w'
                                  go_simp
                                  with_reducible rfl
                                rotate_left
                                · simp only [Act.put, List.setIfInBounds_toArray, List.set_cons_zero, List.set_cons_succ, i64_w, i32_w]
                                  rfl
                                refine pure_ (i := 10) (N := some 90) (v := ?_) (a' := ?_) #[true, false, true, true, true, true, true, false, true, true, true, false, false, false, false, false, false, false] rfl rfl (any_of HT_.out (by kernel_rfl)) (fun _ _ _ h => h) (Or.inl ⟨by rfl, ?_⟩) ?_ ?_
                                rotate_left
                                · intro w'
                                  go_simp
                                  with_reducible rfl
                                rotate_left
                                · simp only [Act.put, List.setIfInBounds_toArray, List.set_cons_zero, List.set_cons_succ, i64_w, i32_w]
                                  rfl
                                refine take_ (i := 11) (N := some 91) (v := ?_) (a' := ?_) #[true, false, true, true, true, true, true, false, true, true, true, true, false, false, false, false, false, false] rfl rfl (take_ofW HT_.out HW_.out (by kernel_rfl)) (fun _ _ _ h => h) (Or.inl ⟨by rfl, ?_⟩) hHeld ?_ ?_
                                rotate_left
                                · intro w' s0
                                  go_simp
                                  with_reducible rfl
                                rotate_left
                                · simp only [Act.put, List.setIfInBounds_toArray, List.set_cons_zero, List.set_cons_succ, i64_w, i32_w]
                                  rfl
                                refine one_ (i := 1) (N := some 81) #[true, true, true, true, true, true, true, false, true, true, true, true, false, false, false, false, false, false] rfl rfl (one_of HT_.out (by kernel_rfl)) (by decide) (fun K hK => ?_)
                                refine Kd.R_lit_step k38 _ 38 ?hg (N := 81) ?hd (xs := ([] : List (S38))) (inner := []) (ok := fun _ => True) (okp := fun _ => True) ?hr ?hp (fun _ hk => hk) trivial (Below.refl _ _) (Nat.le_refl _) (by simp) ?_; (case hd => rfl); (case hg => rfl); (case hr => first | (go_simp; done) | (go_simp; rfl)); (case hp => exact (Reps.none _ _))
                                intro v402 w51 ho52 hb hg_ hnew_
                                have HS0_ := (hb.cell (World.block_lt_of_cell? _ _ (hHeld))).trans (hHeld)
                                clear hg_ hnew_
                                (first | rw [← Ny401.out] at ho52 | (simp only [Int.reduceToNat] at ho52; rw [← Ny401.out] at ho52))
                                have n0_ := Aside0.mk (Kd.R_below (by (with_reducible repeat (first | apply Kd.R_alloc | apply Kd.R_drewN | apply Kd.R_drew)); exact HO_10.out) hb)
                                have n1_ := Aside0.mk (Kd.R_below (by (with_reducible repeat (first | apply Kd.R_alloc | apply Kd.R_drewN | apply Kd.R_drew)); exact HO399.out) hb)
                                have n2_ := Aside0.mk (Kd.R_lower ho52 (below_size (by repeat (first | (with_reducible first | exact HB.out | apply below_alloc | apply pw_below_drewN | apply below_drew1 | refine below_set ?_ GE389.out) | exact HB.out))))
                                have n3_ := Aside0.mk (blk_below (g := gb389) (o := .cells #[.slice A0_0 l0_0.length c0_0, .slice A0_1 l0_1.length c0_1, .int .u8 a0_2, .int .i64 a0_3] 47 (0, 0)) (by (with_reducible repeat (first | refine blk_drewN ?_ _ | refine blk_drew ?_ | refine blk_alloc ?_ _)); exact BK389.out) hb)
                                have n4_ := Aside0.mk (below_step (by repeat (first | (with_reducible first | exact HB.out | apply below_alloc | apply pw_below_drewN | apply below_drew1 | refine below_set ?_ GE389.out) | exact HB.out)) hb)
                                clear HO_10
                                clear HO399
                                clear BK389
                                clear HB
                                have HO_10 := n0_
                                have HO399 := n1_
                                have HO403 := n2_
                                have BK389 := n3_
                                have HB := n4_
                                clear n0_ n1_ n2_ n3_ n4_
                                clear hb ho52
                                refine hK.out _ _ (HS0_) (fun hHeld => ?_)
                                clear hK K
                                refine norm_ (a' := ?_) ?_ ?_
                                rotate_left
                                · show Act.put _ (some 81) _ = _
                                  simp only [Act.put, List.setIfInBounds_toArray, List.set_cons_zero, List.set_cons_succ, i64_w, i32_w]
                                  rfl
                                refine one_ (i := 7) (N := some 87) #[true, true, true, true, true, true, true, true, true, true, true, true, false, false, false, false, false, false] rfl rfl (one_of HT_.out (by kernel_rfl)) (by decide) (fun K hK => ?_)
                                refine Kd.R_append_rows_step k38 (w0 := w) w.heap.size (by rfl) (.tmp 81) (.tmp 86) 23 38 (.agg #[(.int .i64 0), (.string ⟨#[]⟩), (.int .i64 0)]) 32 rfl Try.underlying23 info38 rfl (by decide) (by omega) v402 y401 y404 _ _ _ (fun _ => True) (fun _ => False) rfl rfl ?aO ?aR (fun _ _ h => h) (fun _ h => h.elim) ?aF ?aB ?aS ?aL ?_
                                (case aR => repeat (first | exact (Kd.C_below HR407.out HB.out) | (with_reducible refine Kd.C_alloc ?_ _) | (with_reducible refine Kd.C_drewN ?_ _) | (with_reducible refine Kd.C_drew ?_)))
                                (case aB => exact (by repeat (first | (with_reducible first | exact HB.out | apply below_alloc | apply pw_below_drewN | apply below_drew1 | refine below_set ?_ GE389.out) | exact HB.out)))
                                (case aF => exact (fun _ _ => trivial))
                                (case aO => exact (by (with_reducible repeat (first | apply Kd.R_alloc | apply Kd.R_drewN | apply Kd.R_drew)); exact HO403.out))
                                (case aS => exact (below_size (by repeat (first | (with_reducible first | exact HB.out | apply below_alloc | apply pw_below_drewN | apply below_drew1 | refine below_set ?_ GE389.out) | exact HB.out))))
                                (case aL => have := LMc32.out; omega)
                                intro v409 w53 ho hb hg hat
                                have HS0_ := Kd.cell_apart (by (with_reducible repeat (first | apply Kd.R_alloc | apply Kd.R_drewN | apply Kd.R_drew)); exact HO403.out) (by (with_reducible repeat (first | apply Kd.R_alloc | apply Kd.R_drewN | apply Kd.R_drew)); exact HO_10.out) (by decide) hg (hHeld)
                                rw [← Ny408.out] at ho
                                have n0_ := Aside0.mk (Kd.R_over' (by (with_reducible repeat (first | apply Kd.R_alloc | apply Kd.R_drewN | apply Kd.R_drew)); exact HO_10.out) (Kd.R_typed (by (with_reducible repeat (first | apply Kd.R_alloc | apply Kd.R_drewN | apply Kd.R_drew)); exact HO403.out)) (by decide) hg)
                                have n1_ := Aside0.mk (blk_grown (g := gb389) (o := .cells #[.slice A0_0 l0_0.length c0_0, .slice A0_1 l0_1.length c0_1, .int .u8 a0_2, .int .i64 a0_3] 47 (0, 0)) (by (with_reducible repeat (first | refine blk_drewN ?_ _ | refine blk_drew ?_ | refine blk_alloc ?_ _)); exact BK389.out) hg (Kd.R_ne HO403.out BK389.out (by decide)))
                                have n2_ := Aside0.mk (Kd.R_over' (by (with_reducible repeat (first | apply Kd.R_alloc | apply Kd.R_drewN | apply Kd.R_drew)); exact HO399.out) (Kd.R_typed (by (with_reducible repeat (first | apply Kd.R_alloc | apply Kd.R_drewN | apply Kd.R_drew)); exact HO403.out)) (by decide) hg)
                                have n3_ := Aside0.mk (hb)
                                have n4_ := Aside0.mk (ho)
                                clear HO_10
                                clear BK389
                                clear HO399
                                clear HB
                                clear HO403
                                have HO_10 := n0_
                                have BK389 := n1_
                                have HO399 := n2_
                                have HB := n3_
                                have HO410 := n4_
                                clear n0_ n1_ n2_ n3_ n4_
                                clear ho hb hg hat
                                obtain ⟨Ao54, co54, eo54⟩ := Kd.R_slice HO410.out
                                (first | subst eo54 | (injection eo54 with f1_ f2_ f3_; have f4_ := f1_.symm; have f5_ := f3_.symm; clear f1_ f2_ f3_; subst f4_; subst f5_))
                                refine hK.out _ _ (HS0_) (fun hHeld => ?_)
                                clear hK K
                                refine norm_ (a' := ?_) ?_ ?_
                                rotate_left
                                · show Act.put _ (some 87) _ = _
                                  simp only [Act.put, List.setIfInBounds_toArray, List.set_cons_zero, List.set_cons_succ, i64_w, i32_w]
                                  rfl
                                refine one_ (i := 12) (N := some 92) #[true, true, true, true, true, true, true, true, true, true, true, true, true, false, false, false, false, false] rfl rfl (one_of HT_.out (by kernel_rfl)) (by decide) (fun K hK => ?_)
                                refine goes_ Try.func12 (by kernel_rfl) rfl #[.slice A0_0 l0_0.length c0_0, .slice Ao54 y408.length co54, .int .u8 (rd t394 a0_3)] (by rfl) rfl rfl (by (try simp only [List.map_toArray, List.map_cons, List.map_nil]); first | done | rfl | (simp only [List.length_drop, List.length_take]; rfl)) ?_
                                with_reducible refine (side_Check.calls kj21 _ _ l0_0 _ _ y408 (rd t394 a0_3) t412 t413 _ ?side1 ?side2 ?side3 ?side4 A34.out).mono ?_
                                (case side1 => repeat (first | exact (Kd.C_below HR0_0.out HB.out) | (with_reducible refine Kd.C_alloc ?_ _) | (with_reducible refine Kd.C_drewN ?_ _) | (with_reducible refine Kd.C_drew ?_)))
                                (case side2 => exact HC0_0.out)
                                (case side3 => repeat (first | exact (Kd.R_reads' HO410.out).2.2 | (with_reducible refine Kd.C_alloc ?_ _) | (with_reducible refine Kd.C_drewN ?_ _) | (with_reducible refine Kd.C_drew ?_)))
                                (case side4 => exact (Kd.R_reads' HO410.out).2.1)
                                rintro e w55 ⟨rfl, hb⟩
                                have HS0_ := (hb.cell (World.block_lt_of_cell? _ _ (hHeld))).trans (hHeld)
                                refine ⟨_, rfl, ?_⟩
                                have n0_ := Aside0.mk (Kd.R_below (by (with_reducible repeat (first | apply Kd.R_alloc | apply Kd.R_drewN | apply Kd.R_drew)); exact HO_10.out) hb)
                                have n1_ := Aside0.mk (Kd.R_below (by (with_reducible repeat (first | apply Kd.R_alloc | apply Kd.R_drewN | apply Kd.R_drew)); exact HO399.out) hb)
                                have n2_ := Aside0.mk (Kd.R_below (by (with_reducible repeat (first | apply Kd.R_alloc | apply Kd.R_drewN | apply Kd.R_drew)); exact HO410.out) hb)
                                have n3_ := Aside0.mk (blk_below (g := gb389) (o := .cells #[.slice A0_0 l0_0.length c0_0, .slice A0_1 l0_1.length c0_1, .int .u8 a0_2, .int .i64 a0_3] 47 (0, 0)) (by (with_reducible repeat (first | refine blk_drewN ?_ _ | refine blk_drew ?_ | refine blk_alloc ?_ _)); exact BK389.out) hb)
                                have n4_ := Aside0.mk (below_step (by repeat (first | (with_reducible first | exact HB.out | apply below_alloc | apply pw_below_drewN | apply below_drew1 | refine below_set ?_ GE389.out) | exact HB.out)) hb)
                                clear HO_10
                                clear HO399
                                clear HO410
                                clear BK389
                                clear HB
                                have HO_10 := n0_
                                have HO399 := n1_
                                have HO410 := n2_
                                have BK389 := n3_
                                have HB := n4_
                                clear n0_ n1_ n2_ n3_ n4_
                                (try clear hb)
                                (try clear hb2)
                                (try clear hk)
                                (try clear hi)
                                refine hK.out _ _ (HS0_) (fun hHeld => ?_)
                                clear hK K
                                refine norm_ (a' := ?_) ?_ ?_
                                rotate_left
                                · show Act.put _ (some 92) _ = _
                                  simp only [Act.put, List.setIfInBounds_toArray, List.set_cons_zero, List.set_cons_succ, i64_w, i32_w]
                                  rfl
                                refine pure_ (i := 13) (N := some 79) (v := ?_) (a' := ?_) #[true, true, true, true, true, true, true, true, true, true, true, true, true, true, false, false, false, false] rfl rfl (any_of HT_.out (by kernel_rfl)) (fun _ _ _ h => h) (Or.inl ⟨by rfl, ?_⟩) ?_ ?_
                                rotate_left
                                · intro w'
                                  go_simp
                                  with_reducible rfl
                                rotate_left
                                · simp only [Act.put, List.setIfInBounds_toArray, List.set_cons_zero, List.set_cons_succ, i64_w, i32_w]
                                  rfl
                                refine pure_ (i := 14) (N := some 93) (v := ?_) (a' := ?_) #[true, true, true, true, true, true, true, true, true, true, true, true, true, true, true, false, false, false] rfl rfl (any_of HT_.out (by kernel_rfl)) (fun _ _ _ h => h) (Or.inl ⟨by rfl, ?_⟩) ?_ ?_
                                rotate_left
                                · intro w'
                                  go_simp
                                  with_reducible rfl
                                rotate_left
                                · simp only [Act.put, List.setIfInBounds_toArray, List.set_cons_zero, List.set_cons_succ, i64_w, i32_w]
                                  rfl
                                refine pure_ (i := 15) (N := some 94) (v := ?_) (a' := ?_) #[true, true, true, true, true, true, true, true, true, true, true, true, true, true, true, true, false, false] rfl rfl (any_of HT_.out (by kernel_rfl)) (fun _ _ _ h => h) (Or.inl ⟨by rfl, ?_⟩) ?_ ?_
                                rotate_left
                                · intro w'
                                  go_simp
                                  with_reducible rfl
                                rotate_left
                                · simp only [Act.put, List.setIfInBounds_toArray, List.set_cons_zero, List.set_cons_succ, i64_w, i32_w]
                                  rfl
                                refine pure_ (i := 16) (N := some 12) (v := ?_) (a' := ?_) #[true, true, true, true, true, true, true, true, true, true, true, true, true, true, true, true, true, false] rfl rfl (any_of HT_.out (by kernel_rfl)) (fun _ _ _ h => h) (Or.inl ⟨by rfl, ?_⟩) ?_ ?_
                                rotate_left
                                · intro w'
                                  go_simp
                                  with_reducible rfl
                                rotate_left
                                · simp only [Act.put, List.setIfInBounds_toArray, List.set_cons_zero, List.set_cons_succ, i64_w, i32_w]
                                  rfl
                                refine pure_ (i := 17) (N := some 13) (v := ?_) (a' := ?_) #[true, true, true, true, true, true, true, true, true, true, true, true, true, true, true, true, true, true] rfl rfl (any_of HT_.out (by kernel_rfl)) (fun _ _ _ h => h) (Or.inl ⟨by rfl, ?_⟩) ?_ ?_
                                rotate_left
                                · intro w'
                                  go_simp
                                  with_reducible rfl
                                rotate_left
                                · simp only [Act.put, List.setIfInBounds_toArray, List.set_cons_zero, List.set_cons_succ, i64_w, i32_w]
                                  rfl
                                refine done_ (done_of HT_.out (by kernel_rfl)) ?_
                                try go_wp2
                                go_ret
                                exact ⟨by first | rfl | (simp [errW_none, errW_some] <;> rfl) | (simp [*, errW_none, errW_some] <;> rfl), by repeat (first | (with_reducible first | exact HB.out | apply below_alloc | apply pw_below_drewN | apply below_drew1 | refine below_set ?_ GE389.out) | exact HB.out)⟩
                            · rw [if_neg c33] at H
                              exact absurd H (by simp)
                          · rw [if_neg c32] at H
                            exact absurd H (by simp)
                        · rw [if_neg c31] at H
                          exact absurd H (by simp)
                      · rw [if_neg c30] at H
                        exact absurd H (by simp)
                    · rw [if_neg c29] at H
                      exact absurd H (by simp)
                  · rw [if_neg c28] at H
                    exact absurd H (by simp)
                · rw [if_neg c27] at H
                  exact absurd H (by simp)
  · replace c4 := Bool.eq_false_iff.mpr c4
    subst c4
    have H1 : (some t390) = some r := by rw [if_neg (show ¬ (false = true) by decide)] at H; exact H
    clear H
    have H := H1
    clear H1
    obtain rfl := Option.some.inj H
    go_enter Try.func8, Try.ntmps8
    go_wp2_with (first | ((with_reducible refine gate_dst (N := 1) rfl ?_); (try (refine gate_guard (by rfl) ?_; dsimp only)); refine box_event ?hg (N := 1) ?hd (cs := #[.slice A0_0 l0_0.length c0_0, .slice A0_1 l0_1.length c0_1, .int .u8 a0_2, .int .i64 a0_3]) (t := 47) ?hr ?_; (case hd => rfl); (case hg => rfl); (case hr => first | (go_simp; done) | (go_simp; rfl)); intro gb389 hg w56 hbox hb; have n0_ := Aside0.mk (below_step (by repeat (first | (with_reducible first | exact HB.out | apply below_alloc | apply pw_below_drewN | apply below_drew1) | exact HB.out)) hb); have n1_ := Aside0.mk (hbox); have n2_ := Aside0.mk ((by rw [hg]; exact (below_size (by repeat (first | (with_reducible first | exact HB.out | apply below_alloc | apply pw_below_drewN | apply below_drew1) | exact HB.out))) : w.heap.size ≤ gb389)); have n3_ := Aside0.mk ((by rw [hg]; exact (below_size (by repeat (first | (with_reducible first | exact HB.out | apply below_alloc | apply pw_below_drewN | apply below_drew1) | exact HB.out))) : w.heap.size ≤ gb389)); clear HB; have HB := n0_; have BK389 := n1_; have GW389 := n2_; have GE389 := n3_; clear n0_ n1_ n2_ n3_; clear hb hbox hg; have hcz57_0 : w56.cell? ⟨gb389, 0, none⟩ = some (.slice A0_0 l0_0.length c0_0) := (blk_cell BK389.out 0).trans rfl; have hcz57_1 : w56.cell? ⟨gb389, 1, none⟩ = some (.slice A0_1 l0_1.length c0_1) := (blk_cell BK389.out 1).trans rfl; have hcz57_2 : w56.cell? ⟨gb389, 2, none⟩ = some (.int .u8 a0_2) := (blk_cell BK389.out 2).trans rfl; have hcz57_3 : w56.cell? ⟨gb389, 3, none⟩ = some (.int .i64 a0_3) := (blk_cell BK389.out 3).trans rfl; have hfz57_0 := blk_frozen BK389.out 0; have hfz57_1 := blk_frozen BK389.out 1; have hfz57_2 := blk_frozen BK389.out 2; have hfz57_3 := blk_frozen BK389.out 3) | ((with_reducible refine gate_callee (f := 10) rfl ?_); refine goesL_ (some 22) rfl rfl Try.func10 (by kernel_rfl) rfl #[] rfl (by (try simp only [List.map_toArray, List.map_cons, List.map_nil]); first | done | rfl | (simp only [List.length_drop, List.length_take]; rfl)) ?_; (with_reducible refine (tammylaw08_shown.calls k  t390 _ A2.out).mono ?_); rintro e w58 ⟨rfl, hb⟩; refine ⟨_, rfl, ?_⟩; have n0_ := Aside0.mk (blk_below (g := gb389) (o := .cells #[.slice A0_0 l0_0.length c0_0, .slice A0_1 l0_1.length c0_1, .int .u8 a0_2, .int .i64 a0_3] 47 (0, 0)) (by (with_reducible repeat (first | refine blk_drewN ?_ _ | refine blk_drew ?_ | refine blk_alloc ?_ _)); exact BK389.out) hb); have n1_ := Aside0.mk (below_step (by repeat (first | (with_reducible first | exact HB.out | apply below_alloc | apply pw_below_drewN | apply below_drew1 | refine below_set ?_ GE389.out) | exact HB.out)) hb); clear BK389; clear HB; have BK389 := n0_; have HB := n1_; clear n0_ n1_; (try clear hb); (try clear hb2); (try clear hk); (try clear hi)) | ((with_reducible refine gate_callee (f := 11) rfl ?_); refine goesL_ (some 25) rfl rfl Try.func11 (by kernel_rfl) rfl #[.slice A0_0 l0_0.length c0_0, .slice A0_1 l0_1.length c0_1] rfl (by (try simp only [List.map_toArray, List.map_cons, List.map_nil]); first | done | rfl | (simp only [List.length_drop, List.length_take]; rfl)) ?_; (with_reducible refine (tammylaw08_of.calls k _ _ l0_0 _ _ l0_1 false _ ?side1 ?side2 ?side3 ?side4 A3.out).mono ?_); (case side1 => repeat (first | exact (Kd.C_below HR0_0.out HB.out) | (with_reducible refine Kd.C_alloc ?_ _) | (with_reducible refine Kd.C_drewN ?_ _) | (with_reducible refine Kd.C_drew ?_))); (case side2 => exact HC0_0.out); (case side3 => repeat (first | exact (Kd.C_below HR0_1.out HB.out) | (with_reducible refine Kd.C_alloc ?_ _) | (with_reducible refine Kd.C_drewN ?_ _) | (with_reducible refine Kd.C_drew ?_))); (case side4 => exact HC0_1.out); rintro e w59 ⟨rfl, hb⟩; refine ⟨_, rfl, ?_⟩; have n0_ := Aside0.mk (blk_below (g := gb389) (o := .cells #[.slice A0_0 l0_0.length c0_0, .slice A0_1 l0_1.length c0_1, .int .u8 a0_2, .int .i64 a0_3] 47 (0, 0)) (by (with_reducible repeat (first | refine blk_drewN ?_ _ | refine blk_drew ?_ | refine blk_alloc ?_ _)); exact BK389.out) hb); have n1_ := Aside0.mk (below_step (by repeat (first | (with_reducible first | exact HB.out | apply below_alloc | apply pw_below_drewN | apply below_drew1 | refine below_set ?_ GE389.out) | exact HB.out)) hb); clear BK389; clear HB; have BK389 := n0_; have HB := n1_; clear n0_ n1_; (try clear hb); (try clear hb2); (try clear hk); (try clear hi)))
    go_ret
    exact ⟨by first | rfl | (simp [errW_none, errW_some] <;> rfl) | (simp [*, errW_none, errW_some] <;> rfl), by repeat (first | (with_reducible first | exact HB.out | apply below_alloc | apply pw_below_drewN | apply below_drew1 | refine below_set ?_ GE389.out) | exact HB.out)⟩

end Go.Proofs.Ytgbickkmfjngbaa.K
