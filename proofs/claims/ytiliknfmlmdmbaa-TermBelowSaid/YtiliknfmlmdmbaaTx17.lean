-- Laid by a program of this session (wip/gprint.py) over the kit's print of the translation; Lean checks it.
import Derived.Test.YtiliknfmlmdmbaaTx0
import Derived.Test.YtiliknfmlmdmbaaTx5
import Derived.Test.YtiliknfmlmdmbaaTx6
import Derived.Test.YtiliknfmlmdmbaaTx13
import Derived.Test.YtiliknfmlmdmbaaHm
namespace Go.Proofs.Ytiliknfmlmdmbaa.T
open Go.RowKit Go.Proofs.YtiliknfmlmdmbaaW.PrintWords Go.Proofs.YtiliknfmlmdmbaaW.PrintLast Go.Proofs.YtiliknfmlmdmbaaW.PrintMore
attribute [local go_sem] max2_int min2_int max_two min_two max_three min_three max_four min_four   -- for this text's walks alone
set_option linter.unusedVariables false
set_option linter.unusedSimpArgs false

/-! ### tammylaw03_TermBelow: function 4 -/
mutual
def tammylaw03_TermBelow.j0 : Nat → Int → Bool → Bool → List (List Int) → List Int → Option (Bool)
  | 0, _, _, _, _, _ => none
  | k + 1, x2, x7, x32, x303000, x303001 => if x32 = true then (some x7) else ((term_Of.f x303000 x303001 x2).bind fun bt305 => ((term_Below.f k x303000 x303001 x2).bind fun t313 => (if 0 ≤ (x303000.length : Int) then (if ((x303000.length : Int) : Int).toNat ≤ 281474976710656 then ((some (List.replicate ((x303000.length : Int) : Int).toNat false : List Bool)).bind fun y316 => (if 0 ≤ x2 then (if x2 < (y316.length : Int) then (tammylaw03_TermBelow.l0 k x2 x7 t313 (y316.set (x2 : Int).toNat true) 0 x303000 x303001 bt305.1 bt305.2.1 bt305.2.2.1 bt305.2.2.2.1) else (none)) else (none))) else (none)) else (none))))
def tammylaw03_TermBelow.l0 : Nat → Int → Bool → List Int → List Bool → Int → List (List Int) → List Int → Int → Int → Int → List Int → Option (Bool)
  | 0, _, _, _, _, _, _, _, _, _, _, _ => none
  | k + 1, x2, x7, x10, x11, x12, x303000, x303001, x313000, x313001, x313002, x313003 => if x12 < (x313003.length : Int) then (if 0 ≤ x12 then (if (rd x313003 x12) < 0 then (tammylaw03_TermBelow.j2 k x2 x7 x10 x11 x12 true x303000 x303001 x313000 x313001 x313002 x313003) else (tammylaw03_TermBelow.j2 k x2 x7 x10 x11 x12 (decide ((rd x313003 x12) ≥ x2)) x303000 x303001 x313000 x313001 x313002 x313003)) else (none)) else (tammylaw03_TermBelow.l2 k x7 x10 x11 0 0)
def tammylaw03_TermBelow.j2 : Nat → Int → Bool → List Int → List Bool → Int → Bool → List (List Int) → List Int → Int → Int → Int → List Int → Option (Bool)
  | 0, _, _, _, _, _, _, _, _, _, _, _, _ => none
  | k + 1, x2, x7, x10, x11, x12, x71, x303000, x303001, x313000, x313001, x313002, x313003 => if x71 = true then (some false) else (if 0 ≤ x12 then (if x12 < (x313003.length : Int) then ((term_Below.f k x303000 x303001 (rd x313003 x12)).bind fun t323 => (tammylaw03_TermBelow.l1 k x2 x7 x10 x11 x12 t323 0 x303000 x303001 x313000 x313001 x313002 x313003)) else (none)) else (none))
def tammylaw03_TermBelow.l1 : Nat → Int → Bool → List Int → List Bool → Int → List Int → Int → List (List Int) → List Int → Int → Int → Int → List Int → Option (Bool)
  | 0, _, _, _, _, _, _, _, _, _, _, _, _, _ => none
  | k + 1, x2, x7, x10, x11, x12, x13, x14, x303000, x303001, x313000, x313001, x313002, x313003 => if x14 < (x13.length : Int) then (if 0 ≤ x14 then (if (rd x13 x14) < 0 then (some false) else (if (rd x13 x14) ≥ x2 then (some false) else (if 0 ≤ (rd x13 x14) then (if (rd x13 x14) < (x11.length : Int) then (tammylaw03_TermBelow.l1 k x2 x7 x10 (x11.set ((rd x13 x14) : Int).toNat true) x12 x13 (wrap64 (x14 + 1)) x303000 x303001 x313000 x313001 x313002 x313003) else (none)) else (none)))) else (none)) else (tammylaw03_TermBelow.l0 k x2 x7 x10 x11 (wrap64 (x12 + 1)) x303000 x303001 x313000 x313001 x313002 x313003)
def tammylaw03_TermBelow.l2 : Nat → Bool → List Int → List Bool → Int → Int → Option (Bool)
  | 0, _, _, _, _, _ => none
  | k + 1, x7, x10, x11, x15, x16 => if x16 < (x11.length : Int) then (if 0 ≤ x16 then (if rdOf false x11 x16 = true then (if x15 ≥ (x10.length : Int) then (some false) else (if 0 ≤ x15 then (if x15 < (x10.length : Int) then (if (rd x10 x15) = x16 then (tammylaw03_TermBelow.l2 k x7 x10 x11 (wrap64 (x15 + 1)) (wrap64 (x16 + 1))) else (some false)) else (none)) else (none))) else (tammylaw03_TermBelow.l2 k x7 x10 x11 x15 (wrap64 (x16 + 1)))) else (none)) else (if x7 = true then (some (x15 == (x10.length : Int))) else (some false))
end
def tammylaw03_TermBelow.f (k : Nat) (l0 : List (S62)) (l1_0 : List (List Int)) (l1_1 : List Int) (a2 : Int) : Option (Bool) := (tammylaw03_shown.f k).bind fun t303 => ((tammylaw03_of.f k l0 l1_0 l1_1).bind fun t304 => (if t304 = true then (if a2 < 0 then (tammylaw03_TermBelow.j0 k a2 t303 true l1_0 l1_1) else (tammylaw03_TermBelow.j0 k a2 t303 (decide (a2 ≥ (l1_0.length : Int))) l1_0 l1_1)) else (tammylaw03_TermBelow.j0 k a2 t303 true l1_0 l1_1)))
theorem tammylaw03_TermBelow.mono_l : ∀ k, (∀ y0 y1 y2 y3 y4, LeO (tammylaw03_TermBelow.j0 k y0 y1 y2 y3 y4) (tammylaw03_TermBelow.j0 (k + 1) y0 y1 y2 y3 y4)) ∧ (∀ y0 y1 y2 y3 y4 y5 y6 y7 y8 y9 y10, LeO (tammylaw03_TermBelow.l0 k y0 y1 y2 y3 y4 y5 y6 y7 y8 y9 y10) (tammylaw03_TermBelow.l0 (k + 1) y0 y1 y2 y3 y4 y5 y6 y7 y8 y9 y10)) ∧ (∀ y0 y1 y2 y3 y4 y5 y6 y7 y8 y9 y10 y11, LeO (tammylaw03_TermBelow.j2 k y0 y1 y2 y3 y4 y5 y6 y7 y8 y9 y10 y11) (tammylaw03_TermBelow.j2 (k + 1) y0 y1 y2 y3 y4 y5 y6 y7 y8 y9 y10 y11)) ∧ (∀ y0 y1 y2 y3 y4 y5 y6 y7 y8 y9 y10 y11 y12, LeO (tammylaw03_TermBelow.l1 k y0 y1 y2 y3 y4 y5 y6 y7 y8 y9 y10 y11 y12) (tammylaw03_TermBelow.l1 (k + 1) y0 y1 y2 y3 y4 y5 y6 y7 y8 y9 y10 y11 y12)) ∧ (∀ y0 y1 y2 y3 y4, LeO (tammylaw03_TermBelow.l2 k y0 y1 y2 y3 y4) (tammylaw03_TermBelow.l2 (k + 1) y0 y1 y2 y3 y4))
  | 0 => ⟨fun _ _ _ _ _ r h => by simp [tammylaw03_TermBelow.j0] at h, fun _ _ _ _ _ _ _ _ _ _ _ r h => by simp [tammylaw03_TermBelow.l0] at h, fun _ _ _ _ _ _ _ _ _ _ _ _ r h => by simp [tammylaw03_TermBelow.j2] at h, fun _ _ _ _ _ _ _ _ _ _ _ _ _ r h => by simp [tammylaw03_TermBelow.l1] at h, fun _ _ _ _ _ r h => by simp [tammylaw03_TermBelow.l2] at h⟩
  | k + 1 => by
    obtain ⟨ih0, ih1, ih2, ih3, ih4⟩ := tammylaw03_TermBelow.mono_l k
    refine ⟨?_, ?_, ?_, ?_, ?_⟩
    · intro y0 y1 y2 y3 y4
      unfold tammylaw03_TermBelow.j0
      repeat' first
      | (with_reducible exact ih0 _ _ _ _ _)
      | (with_reducible exact ih1 _ _ _ _ _ _ _ _ _ _ _)
      | (with_reducible exact ih2 _ _ _ _ _ _ _ _ _ _ _ _)
      | (with_reducible exact ih3 _ _ _ _ _ _ _ _ _ _ _ _ _)
      | (with_reducible exact ih4 _ _ _ _ _)
      | (with_reducible exact tammylaw03_of.mono _ _ _ _)
      | (with_reducible exact tammylaw03_shown.mono _)
      | (with_reducible exact term_Below.mono _ _ _ _)
      | (with_reducible exact LeO.refl _)
      | (with_reducible exact LeO.none _)
      | (with_reducible refine LeO.ite ?_ ?_)
      | (with_reducible refine LeO.bind ?_ (fun _ => ?_))
      | exact ih0 _ _ _ _ _
      | exact ih1 _ _ _ _ _ _ _ _ _ _ _
      | exact ih2 _ _ _ _ _ _ _ _ _ _ _ _
      | exact ih3 _ _ _ _ _ _ _ _ _ _ _ _ _
      | exact ih4 _ _ _ _ _
      | exact tammylaw03_of.mono _ _ _ _
      | exact tammylaw03_shown.mono _
      | exact term_Below.mono _ _ _ _
      | exact LeO.none _
      | refine LeO.ite ?_ ?_
      | refine LeO.bind ?_ (fun _ => ?_)
    · intro y0 y1 y2 y3 y4 y5 y6 y7 y8 y9 y10
      unfold tammylaw03_TermBelow.l0
      repeat' first
      | (with_reducible exact ih0 _ _ _ _ _)
      | (with_reducible exact ih1 _ _ _ _ _ _ _ _ _ _ _)
      | (with_reducible exact ih2 _ _ _ _ _ _ _ _ _ _ _ _)
      | (with_reducible exact ih3 _ _ _ _ _ _ _ _ _ _ _ _ _)
      | (with_reducible exact ih4 _ _ _ _ _)
      | (with_reducible exact tammylaw03_of.mono _ _ _ _)
      | (with_reducible exact tammylaw03_shown.mono _)
      | (with_reducible exact term_Below.mono _ _ _ _)
      | (with_reducible exact LeO.refl _)
      | (with_reducible exact LeO.none _)
      | (with_reducible refine LeO.ite ?_ ?_)
      | (with_reducible refine LeO.bind ?_ (fun _ => ?_))
      | exact ih0 _ _ _ _ _
      | exact ih1 _ _ _ _ _ _ _ _ _ _ _
      | exact ih2 _ _ _ _ _ _ _ _ _ _ _ _
      | exact ih3 _ _ _ _ _ _ _ _ _ _ _ _ _
      | exact ih4 _ _ _ _ _
      | exact tammylaw03_of.mono _ _ _ _
      | exact tammylaw03_shown.mono _
      | exact term_Below.mono _ _ _ _
      | exact LeO.none _
      | refine LeO.ite ?_ ?_
      | refine LeO.bind ?_ (fun _ => ?_)
    · intro y0 y1 y2 y3 y4 y5 y6 y7 y8 y9 y10 y11
      unfold tammylaw03_TermBelow.j2
      repeat' first
      | (with_reducible exact ih0 _ _ _ _ _)
      | (with_reducible exact ih1 _ _ _ _ _ _ _ _ _ _ _)
      | (with_reducible exact ih2 _ _ _ _ _ _ _ _ _ _ _ _)
      | (with_reducible exact ih3 _ _ _ _ _ _ _ _ _ _ _ _ _)
      | (with_reducible exact ih4 _ _ _ _ _)
      | (with_reducible exact tammylaw03_of.mono _ _ _ _)
      | (with_reducible exact tammylaw03_shown.mono _)
      | (with_reducible exact term_Below.mono _ _ _ _)
      | (with_reducible exact LeO.refl _)
      | (with_reducible exact LeO.none _)
      | (with_reducible refine LeO.ite ?_ ?_)
      | (with_reducible refine LeO.bind ?_ (fun _ => ?_))
      | exact ih0 _ _ _ _ _
      | exact ih1 _ _ _ _ _ _ _ _ _ _ _
      | exact ih2 _ _ _ _ _ _ _ _ _ _ _ _
      | exact ih3 _ _ _ _ _ _ _ _ _ _ _ _ _
      | exact ih4 _ _ _ _ _
      | exact tammylaw03_of.mono _ _ _ _
      | exact tammylaw03_shown.mono _
      | exact term_Below.mono _ _ _ _
      | exact LeO.none _
      | refine LeO.ite ?_ ?_
      | refine LeO.bind ?_ (fun _ => ?_)
    · intro y0 y1 y2 y3 y4 y5 y6 y7 y8 y9 y10 y11 y12
      unfold tammylaw03_TermBelow.l1
      repeat' first
      | (with_reducible exact ih0 _ _ _ _ _)
      | (with_reducible exact ih1 _ _ _ _ _ _ _ _ _ _ _)
      | (with_reducible exact ih2 _ _ _ _ _ _ _ _ _ _ _ _)
      | (with_reducible exact ih3 _ _ _ _ _ _ _ _ _ _ _ _ _)
      | (with_reducible exact ih4 _ _ _ _ _)
      | (with_reducible exact tammylaw03_of.mono _ _ _ _)
      | (with_reducible exact tammylaw03_shown.mono _)
      | (with_reducible exact term_Below.mono _ _ _ _)
      | (with_reducible exact LeO.refl _)
      | (with_reducible exact LeO.none _)
      | (with_reducible refine LeO.ite ?_ ?_)
      | (with_reducible refine LeO.bind ?_ (fun _ => ?_))
      | exact ih0 _ _ _ _ _
      | exact ih1 _ _ _ _ _ _ _ _ _ _ _
      | exact ih2 _ _ _ _ _ _ _ _ _ _ _ _
      | exact ih3 _ _ _ _ _ _ _ _ _ _ _ _ _
      | exact ih4 _ _ _ _ _
      | exact tammylaw03_of.mono _ _ _ _
      | exact tammylaw03_shown.mono _
      | exact term_Below.mono _ _ _ _
      | exact LeO.none _
      | refine LeO.ite ?_ ?_
      | refine LeO.bind ?_ (fun _ => ?_)
    · intro y0 y1 y2 y3 y4
      unfold tammylaw03_TermBelow.l2
      repeat' first
      | (with_reducible exact ih0 _ _ _ _ _)
      | (with_reducible exact ih1 _ _ _ _ _ _ _ _ _ _ _)
      | (with_reducible exact ih2 _ _ _ _ _ _ _ _ _ _ _ _)
      | (with_reducible exact ih3 _ _ _ _ _ _ _ _ _ _ _ _ _)
      | (with_reducible exact ih4 _ _ _ _ _)
      | (with_reducible exact tammylaw03_of.mono _ _ _ _)
      | (with_reducible exact tammylaw03_shown.mono _)
      | (with_reducible exact term_Below.mono _ _ _ _)
      | (with_reducible exact LeO.refl _)
      | (with_reducible exact LeO.none _)
      | (with_reducible refine LeO.ite ?_ ?_)
      | (with_reducible refine LeO.bind ?_ (fun _ => ?_))
      | exact ih0 _ _ _ _ _
      | exact ih1 _ _ _ _ _ _ _ _ _ _ _
      | exact ih2 _ _ _ _ _ _ _ _ _ _ _ _
      | exact ih3 _ _ _ _ _ _ _ _ _ _ _ _ _
      | exact ih4 _ _ _ _ _
      | exact tammylaw03_of.mono _ _ _ _
      | exact tammylaw03_shown.mono _
      | exact term_Below.mono _ _ _ _
      | exact LeO.none _
      | refine LeO.ite ?_ ?_
      | refine LeO.bind ?_ (fun _ => ?_)
theorem tammylaw03_TermBelow.mono : ∀ a0 a1 a2 a3 k, LeO (tammylaw03_TermBelow.f k a0 a1 a2 a3) (tammylaw03_TermBelow.f (k + 1) a0 a1 a2 a3) := by
  intro a0 a1 a2 a3 k
  obtain ⟨ih0, ih1, ih2, ih3, ih4⟩ := tammylaw03_TermBelow.mono_l k
  unfold tammylaw03_TermBelow.f
  repeat' first
      | (with_reducible exact ih0 _ _ _ _ _)
      | (with_reducible exact ih1 _ _ _ _ _ _ _ _ _ _ _)
      | (with_reducible exact ih2 _ _ _ _ _ _ _ _ _ _ _ _)
      | (with_reducible exact ih3 _ _ _ _ _ _ _ _ _ _ _ _ _)
      | (with_reducible exact ih4 _ _ _ _ _)
      | (with_reducible exact tammylaw03_of.mono _ _ _ _)
      | (with_reducible exact tammylaw03_shown.mono _)
      | (with_reducible exact term_Below.mono _ _ _ _)
      | (with_reducible exact LeO.refl _)
      | (with_reducible exact LeO.none _)
      | (with_reducible refine LeO.ite ?_ ?_)
      | (with_reducible refine LeO.bind ?_ (fun _ => ?_))
      | exact ih0 _ _ _ _ _
      | exact ih1 _ _ _ _ _ _ _ _ _ _ _
      | exact ih2 _ _ _ _ _ _ _ _ _ _ _ _
      | exact ih3 _ _ _ _ _ _ _ _ _ _ _ _ _
      | exact ih4 _ _ _ _ _
      | exact tammylaw03_of.mono _ _ _ _
      | exact tammylaw03_shown.mono _
      | exact term_Below.mono _ _ _ _
      | exact LeO.none _
      | refine LeO.ite ?_ ?_
      | refine LeO.bind ?_ (fun _ => ?_)
def tammylaw03_TermBelow.T13 : Bool × List (List Nat × List Nat) := (true, [([], []), ([], []), ([1], [1]), ([], []), ([2, 3], [2, 3]), ([4], [4]), ([0, 5], [0, 5]), ([6, 6, 0, 1, 2, 3, 4, 5, 6], [6])])
def tammylaw03_TermBelow.B13 : List Nat := [0, 0, 2, 0, 14, 30, 63, 127]
theorem tammylaw03_TermBelow.tab13 : rtab .any (opsOf Try.f4 13) = tammylaw03_TermBelow.T13 := by kernel_rfl
theorem tammylaw03_TermBelow.bits13 : waitsOk tammylaw03_TermBelow.T13.2 tammylaw03_TermBelow.B13 = true := by kernel_rfl
set_option maxHeartbeats 8000000 in
set_option maxRecDepth 100000 in
theorem tammylaw03_TermBelow.calls (k : Nat) (A0 : Option Addr) (c0 : Nat) (l0 : List (S62)) (A1_0 : Option Addr) (c1_0 : Nat) (l1_0 : List (List Int)) (A1_1 : Option Addr) (c1_1 : Nat) (l1_1 : List Int) (a2 : Int) (r : Bool) (w : World) (hr0 : Kd.C k62 w A0 l0.length l0) (hc0 : l0.length ≤ c0) (hr1_0 : Kd.C (Kd.slice 3 (Kd.int .i64)) w A1_0 l1_0.length l1_0) (hc1_0 : l1_0.length ≤ c1_0) (hr1_1 : Kd.C (Kd.int .i64) w A1_1 l1_1.length l1_1) (hc1_1 : l1_1.length ≤ c1_1) (h : tammylaw03_TermBelow.f k l0 l1_0 l1_1 a2 = some r) :
    Calls Try.prog 4 #[.slice A0 l0.length c0, .agg #[.slice A1_0 l1_0.length c1_0, .slice A1_1 l1_1.length c1_1], .int .i64 a2] w fun e w' => e = .returned (.bool r) ∧ Below w.heap.size w w' := by
  have hu26 := Try.underlying26
  have hu28 := Try.underlying28
  have HR0 := Aside0.mk hr0
  have HC0 := Aside0.mk hc0
  clear hr0 hc0
  have HR1_0 := Aside0.mk hr1_0
  have HC1_0 := Aside0.mk hc1_0
  clear hr1_0 hc1_0
  have HR1_1 := Aside0.mk hr1_1
  have HC1_1 := Aside0.mk hc1_1
  clear hr1_1 hc1_1
  have HB := Aside0.mk (Below.refl w.heap.size w)
  have H : ((tammylaw03_shown.f k).bind fun t303 => ((tammylaw03_of.f k l0 l1_0 l1_1).bind fun t304 => (if t304 = true then (if a2 < 0 then (tammylaw03_TermBelow.j0 k a2 t303 true l1_0 l1_1) else (tammylaw03_TermBelow.j0 k a2 t303 (decide (a2 ≥ (l1_0.length : Int))) l1_0 l1_1)) else (tammylaw03_TermBelow.j0 k a2 t303 true l1_0 l1_1)))) = some r := h
  clear h
  replace H := Option.bind_eq_some_iff.mp H
  obtain ⟨t303, A40, H⟩ := H
  replace H : ((tammylaw03_of.f k l0 l1_0 l1_1).bind fun t304 => (if t304 = true then (if a2 < 0 then (tammylaw03_TermBelow.j0 k a2 t303 true l1_0 l1_1) else (tammylaw03_TermBelow.j0 k a2 t303 (decide (a2 ≥ (l1_0.length : Int))) l1_0 l1_1)) else (tammylaw03_TermBelow.j0 k a2 t303 true l1_0 l1_1))) = some r := H
  have A4 := Aside0.mk A40
  clear A40
  have HC5 := Aside0.mk H
  clear H
  go_enter Try.func4, Try.ntmps4
  go_upto_region 2 with (first | ((with_reducible refine gate_dst (N := 4) rfl ?_); (try (refine gate_guard (by rfl) ?_; dsimp only)); refine box_event ?hg (N := 4) ?hd (cs := #[.slice A1_0 l1_0.length c1_0, .slice A1_1 l1_1.length c1_1]) (t := 26) ?hr ?_; (case hd => rfl); (case hg => rfl); (case hr => first | (go_simp; done) | (go_simp; rfl)); intro gb302 hg w6 hbox hb; have n0_ := Aside0.mk (below_step (by repeat (first | (with_reducible first | exact HB.out | apply below_alloc | apply pw_below_drewN | apply below_drew1) | exact HB.out)) hb); have n1_ := Aside0.mk (hbox); have n2_ := Aside0.mk ((by rw [hg]; exact (below_size (by repeat (first | (with_reducible first | exact HB.out | apply below_alloc | apply pw_below_drewN | apply below_drew1) | exact HB.out))) : w.heap.size ≤ gb302)); have n3_ := Aside0.mk ((by rw [hg]; exact (below_size (by repeat (first | (with_reducible first | exact HB.out | apply below_alloc | apply pw_below_drewN | apply below_drew1) | exact HB.out))) : w.heap.size ≤ gb302)); clear HB; have HB := n0_; have BK302 := n1_; have GW302 := n2_; have GE302 := n3_; clear n0_ n1_ n2_ n3_; clear hb hbox hg) | ((with_reducible refine gate_callee (f := 5) rfl ?_); refine goesL_ (some 17) rfl rfl Try.func5 (by kernel_rfl) rfl #[] rfl (by (try simp only [List.map_toArray, List.map_cons, List.map_nil]); first | done | rfl | (simp only [List.length_drop, List.length_take]; rfl)) ?_; (with_reducible refine (tammylaw03_shown.calls k  t303 _ A4.out).mono ?_); rintro e w7 ⟨rfl, hb⟩; refine ⟨_, rfl, ?_⟩; have n0_ := Aside0.mk (blk_below (g := gb302) (o := .cells #[.slice A1_0 l1_0.length c1_0, .slice A1_1 l1_1.length c1_1] 26 (0, 0)) (by (with_reducible repeat (first | refine blk_drewN ?_ _ | refine blk_drew ?_ | refine blk_alloc ?_ _)); exact BK302.out) hb); have n1_ := Aside0.mk (below_step (by repeat (first | (with_reducible first | exact HB.out | apply below_alloc | apply pw_below_drewN | apply below_drew1 | refine below_set ?_ GE302.out) | exact HB.out)) hb); clear BK302; clear HB; have BK302 := n0_; have HB := n1_; clear n0_ n1_; (try clear hb); (try clear hb2); (try clear hk); (try clear hi)))
  (try simp only [Act.put, List.setIfInBounds_toArray, List.set_cons_zero, List.set_cons_succ])
  go_cut [32] (fun v32 wc => ∃ (kq : Nat) (x32_4 : Bool), v32 = .bool x32_4 ∧ Aside0 (tammylaw03_TermBelow.j0 kq a2 t303 x32_4 l1_0 l1_1 = some r) ∧ Aside0 (kq ≤ k) ∧ Aside0 (wc.heap[gb302]? = some (.cells #[(.slice A1_0 l1_0.length c1_0), (.slice A1_1 l1_1.length c1_1)] 26 (0, 0))) ∧ Aside0 (Below w.heap.size w wc))
  case first =>
    have H := HC5.out
    clear HC5
    replace H := Option.bind_eq_some_iff.mp H
    obtain ⟨t304, A80, H⟩ := H
    replace H : (if t304 = true then (if a2 < 0 then (tammylaw03_TermBelow.j0 k a2 t303 true l1_0 l1_1) else (tammylaw03_TermBelow.j0 k a2 t303 (decide (a2 ≥ (l1_0.length : Int))) l1_0 l1_1)) else (tammylaw03_TermBelow.j0 k a2 t303 true l1_0 l1_1)) = some r := H
    have A8 := Aside0.mk A80
    clear A80
    by_cases c9 : t304 = true
    · subst c9
      have H1 : (if a2 < 0 then (tammylaw03_TermBelow.j0 k a2 t303 true l1_0 l1_1) else (tammylaw03_TermBelow.j0 k a2 t303 (decide (a2 ≥ (l1_0.length : Int))) l1_0 l1_1)) = some r := by rw [if_pos rfl] at H; exact H
      clear H
      have H := H1
      clear H1
      by_cases c10 : a2 < 0
      · rw [if_pos c10] at H
        have c10b0 : decide (a2 < 0) = true := decide_eq_true c10
        clear c10
        (first | rw [c10b0] | (simp only [i64_w, i32_w]; rw [c10b0]) | skip)
        have H' := Aside0.mk H
        clear H
        have hcz11_0 : w7.cell? ⟨gb302, 0, none⟩ = some (.slice A1_0 l1_0.length c1_0) := (blk_cell BK302.out 0).trans rfl
        have hcz11_1 : w7.cell? ⟨gb302, 1, none⟩ = some (.slice A1_1 l1_1.length c1_1) := (blk_cell BK302.out 1).trans rfl
        have hfz11_0 := blk_frozen BK302.out 0
        have hfz11_1 := blk_frozen BK302.out 1
        go_wp2_with (first | ((with_reducible refine gate_callee (f := 6) rfl ?_); refine goesL_ (some 20) rfl rfl Try.func6 (by kernel_rfl) rfl #[.slice A0 l0.length c0, .agg #[.slice A1_0 l1_0.length c1_0, .slice A1_1 l1_1.length c1_1]] rfl (by (try simp only [List.map_toArray, List.map_cons, List.map_nil]); first | done | rfl | (simp only [List.length_drop, List.length_take]; rfl)) ?_; (with_reducible refine (tammylaw03_of.calls k _ _ l0 _ _ l1_0 _ _ l1_1 true _ ?side1 ?side2 ?side3 ?side4 ?side5 ?side6 A8.out).mono ?_); (case side1 => repeat (first | exact (Kd.C_below HR0.out HB.out) | (with_reducible refine Kd.C_alloc ?_ _) | (with_reducible refine Kd.C_drewN ?_ _) | (with_reducible refine Kd.C_drew ?_))); (case side2 => exact HC0.out); (case side3 => repeat (first | exact (Kd.C_below HR1_0.out HB.out) | (with_reducible refine Kd.C_alloc ?_ _) | (with_reducible refine Kd.C_drewN ?_ _) | (with_reducible refine Kd.C_drew ?_))); (case side4 => exact HC1_0.out); (case side5 => repeat (first | exact (Kd.C_below HR1_1.out HB.out) | (with_reducible refine Kd.C_alloc ?_ _) | (with_reducible refine Kd.C_drewN ?_ _) | (with_reducible refine Kd.C_drew ?_))); (case side6 => exact HC1_1.out); rintro e w12 ⟨rfl, hb⟩; refine ⟨_, rfl, ?_⟩; have n0_ := Aside0.mk (blk_below (g := gb302) (o := .cells #[.slice A1_0 l1_0.length c1_0, .slice A1_1 l1_1.length c1_1] 26 (0, 0)) (by (with_reducible repeat (first | refine blk_drewN ?_ _ | refine blk_drew ?_ | refine blk_alloc ?_ _)); exact BK302.out) hb); have n1_ := Aside0.mk (below_step (by repeat (first | (with_reducible first | exact HB.out | apply below_alloc | apply pw_below_drewN | apply below_drew1 | refine below_set ?_ GE302.out) | exact HB.out)) hb); clear BK302; clear HB; have BK302 := n0_; have HB := n1_; clear n0_ n1_; (try clear hb); (try clear hb2); (try clear hk); (try clear hi)))
        go_meet
        case rel => exact ⟨_, (true), (by first | rfl | (simp; done) | (simp [*]; done)), H', ⟨by first | omega | exact Nat.le_refl _⟩, ⟨by (with_reducible repeat (first | refine blk_drewN ?_ _ | refine blk_drew ?_ | refine blk_alloc ?_ _)); exact BK302.out⟩, ⟨by repeat (first | (with_reducible first | exact HB.out | apply below_alloc | apply pw_below_drewN | apply below_drew1 | refine below_set ?_ GE302.out) | exact HB.out)⟩⟩
      · rw [if_neg c10] at H
        have c10b0 : decide (a2 < 0) = false := decide_eq_false c10
        clear c10
        (first | rw [c10b0] | (simp only [i64_w, i32_w]; rw [c10b0]) | skip)
        have H' := Aside0.mk H
        clear H
        have hcz13_0 : w7.cell? ⟨gb302, 0, none⟩ = some (.slice A1_0 l1_0.length c1_0) := (blk_cell BK302.out 0).trans rfl
        have hcz13_1 : w7.cell? ⟨gb302, 1, none⟩ = some (.slice A1_1 l1_1.length c1_1) := (blk_cell BK302.out 1).trans rfl
        have hfz13_0 := blk_frozen BK302.out 0
        have hfz13_1 := blk_frozen BK302.out 1
        go_wp2_with (first | ((with_reducible refine gate_callee (f := 6) rfl ?_); refine goesL_ (some 20) rfl rfl Try.func6 (by kernel_rfl) rfl #[.slice A0 l0.length c0, .agg #[.slice A1_0 l1_0.length c1_0, .slice A1_1 l1_1.length c1_1]] rfl (by (try simp only [List.map_toArray, List.map_cons, List.map_nil]); first | done | rfl | (simp only [List.length_drop, List.length_take]; rfl)) ?_; (with_reducible refine (tammylaw03_of.calls k _ _ l0 _ _ l1_0 _ _ l1_1 true _ ?side1 ?side2 ?side3 ?side4 ?side5 ?side6 A8.out).mono ?_); (case side1 => repeat (first | exact (Kd.C_below HR0.out HB.out) | (with_reducible refine Kd.C_alloc ?_ _) | (with_reducible refine Kd.C_drewN ?_ _) | (with_reducible refine Kd.C_drew ?_))); (case side2 => exact HC0.out); (case side3 => repeat (first | exact (Kd.C_below HR1_0.out HB.out) | (with_reducible refine Kd.C_alloc ?_ _) | (with_reducible refine Kd.C_drewN ?_ _) | (with_reducible refine Kd.C_drew ?_))); (case side4 => exact HC1_0.out); (case side5 => repeat (first | exact (Kd.C_below HR1_1.out HB.out) | (with_reducible refine Kd.C_alloc ?_ _) | (with_reducible refine Kd.C_drewN ?_ _) | (with_reducible refine Kd.C_drew ?_))); (case side6 => exact HC1_1.out); rintro e w14 ⟨rfl, hb⟩; refine ⟨_, rfl, ?_⟩; have n0_ := Aside0.mk (blk_below (g := gb302) (o := .cells #[.slice A1_0 l1_0.length c1_0, .slice A1_1 l1_1.length c1_1] 26 (0, 0)) (by (with_reducible repeat (first | refine blk_drewN ?_ _ | refine blk_drew ?_ | refine blk_alloc ?_ _)); exact BK302.out) hb); have n1_ := Aside0.mk (below_step (by repeat (first | (with_reducible first | exact HB.out | apply below_alloc | apply pw_below_drewN | apply below_drew1 | refine below_set ?_ GE302.out) | exact HB.out)) hb); clear BK302; clear HB; have BK302 := n0_; have HB := n1_; clear n0_ n1_; (try clear hb); (try clear hb2); (try clear hk); (try clear hi); have hcz15_0 : w14.cell? ⟨gb302, 0, none⟩ = some (.slice A1_0 l1_0.length c1_0) := (blk_cell BK302.out 0).trans rfl; have hcz15_1 : w14.cell? ⟨gb302, 1, none⟩ = some (.slice A1_1 l1_1.length c1_1) := (blk_cell BK302.out 1).trans rfl; have hfz15_0 := blk_frozen BK302.out 0; have hfz15_1 := blk_frozen BK302.out 1))
        go_meet
        case rel => exact ⟨_, (decide (a2 ≥ (l1_0.length : Int))), (by first | rfl | (simp; done) | (simp [*]; done)), H', ⟨by first | omega | exact Nat.le_refl _⟩, ⟨by (with_reducible repeat (first | refine blk_drewN ?_ _ | refine blk_drew ?_ | refine blk_alloc ?_ _)); exact BK302.out⟩, ⟨by repeat (first | (with_reducible first | exact HB.out | apply below_alloc | apply pw_below_drewN | apply below_drew1 | refine below_set ?_ GE302.out) | exact HB.out)⟩⟩
    · replace c9 := Bool.eq_false_iff.mpr c9
      subst c9
      have H1 : (tammylaw03_TermBelow.j0 k a2 t303 true l1_0 l1_1) = some r := by rw [if_neg (show ¬ (false = true) by decide)] at H; exact H
      clear H
      have H := H1
      clear H1
      have H' := Aside0.mk H
      clear H
      have hcz16_0 : w7.cell? ⟨gb302, 0, none⟩ = some (.slice A1_0 l1_0.length c1_0) := (blk_cell BK302.out 0).trans rfl
      have hcz16_1 : w7.cell? ⟨gb302, 1, none⟩ = some (.slice A1_1 l1_1.length c1_1) := (blk_cell BK302.out 1).trans rfl
      have hfz16_0 := blk_frozen BK302.out 0
      have hfz16_1 := blk_frozen BK302.out 1
      go_wp2_with (first | ((with_reducible refine gate_callee (f := 6) rfl ?_); refine goesL_ (some 20) rfl rfl Try.func6 (by kernel_rfl) rfl #[.slice A0 l0.length c0, .agg #[.slice A1_0 l1_0.length c1_0, .slice A1_1 l1_1.length c1_1]] rfl (by (try simp only [List.map_toArray, List.map_cons, List.map_nil]); first | done | rfl | (simp only [List.length_drop, List.length_take]; rfl)) ?_; (with_reducible refine (tammylaw03_of.calls k _ _ l0 _ _ l1_0 _ _ l1_1 false _ ?side1 ?side2 ?side3 ?side4 ?side5 ?side6 A8.out).mono ?_); (case side1 => repeat (first | exact (Kd.C_below HR0.out HB.out) | (with_reducible refine Kd.C_alloc ?_ _) | (with_reducible refine Kd.C_drewN ?_ _) | (with_reducible refine Kd.C_drew ?_))); (case side2 => exact HC0.out); (case side3 => repeat (first | exact (Kd.C_below HR1_0.out HB.out) | (with_reducible refine Kd.C_alloc ?_ _) | (with_reducible refine Kd.C_drewN ?_ _) | (with_reducible refine Kd.C_drew ?_))); (case side4 => exact HC1_0.out); (case side5 => repeat (first | exact (Kd.C_below HR1_1.out HB.out) | (with_reducible refine Kd.C_alloc ?_ _) | (with_reducible refine Kd.C_drewN ?_ _) | (with_reducible refine Kd.C_drew ?_))); (case side6 => exact HC1_1.out); rintro e w17 ⟨rfl, hb⟩; refine ⟨_, rfl, ?_⟩; have n0_ := Aside0.mk (blk_below (g := gb302) (o := .cells #[.slice A1_0 l1_0.length c1_0, .slice A1_1 l1_1.length c1_1] 26 (0, 0)) (by (with_reducible repeat (first | refine blk_drewN ?_ _ | refine blk_drew ?_ | refine blk_alloc ?_ _)); exact BK302.out) hb); have n1_ := Aside0.mk (below_step (by repeat (first | (with_reducible first | exact HB.out | apply below_alloc | apply pw_below_drewN | apply below_drew1 | refine below_set ?_ GE302.out) | exact HB.out)) hb); clear BK302; clear HB; have BK302 := n0_; have HB := n1_; clear n0_ n1_; (try clear hb); (try clear hb2); (try clear hk); (try clear hi)))
      go_meet
      case rel => exact ⟨_, (true), (by first | rfl | (simp; done) | (simp [*]; done)), H', ⟨by first | omega | exact Nat.le_refl _⟩, ⟨by (with_reducible repeat (first | refine blk_drewN ?_ _ | refine blk_drew ?_ | refine blk_alloc ?_ _)); exact BK302.out⟩, ⟨by repeat (first | (with_reducible first | exact HB.out | apply below_alloc | apply pw_below_drewN | apply below_drew1 | refine below_set ?_ GE302.out) | exact HB.out)⟩⟩
  case rest =>
    clear HC5
    try clear c1
    try clear p2
    try clear c4
    try clear c5
    try clear c6
    try clear c9
    try clear c10
    try clear c10b0
    try clear hcz11_0
    try clear hcz11_1
    try clear hcz13_0
    try clear hcz13_1
    try clear hcz15_0
    try clear hcz15_1
    try clear hcz16_0
    try clear hcz16_1
    try clear hfz11_0
    try clear hfz11_1
    try clear hfz13_0
    try clear hfz13_1
    try clear hfz15_0
    try clear hfz15_1
    try clear hfz16_0
    try clear hfz16_1
    obtain ⟨kq, x32_4, rfl, HA, HJ4, BK302, HB⟩ := hcut
    cases kq with
    | zero => exact absurd HA.out (by simp [tammylaw03_TermBelow.j0])
    | succ kj4 =>
      have H := HA.out
      clear HA
      simp only [tammylaw03_TermBelow.j0] at H
      by_cases c18 : x32_4 = true
      · subst c18
        have H1 : (some t303) = some r := by rw [if_pos rfl] at H; exact H
        clear H
        have H := H1
        clear H1
        obtain rfl := Option.some.inj H
        go_wp2
        go_ret
        exact ⟨by first | rfl | (simp [errW_none, errW_some] <;> rfl) | (simp [*, errW_none, errW_some] <;> rfl), by repeat (first | (with_reducible first | exact HB.out | apply below_alloc | apply pw_below_drewN | apply below_drew1 | refine below_set ?_ GE302.out) | exact HB.out)⟩
      · replace c18 := Bool.eq_false_iff.mpr c18
        subst c18
        have H1 : ((term_Of.f l1_0 l1_1 a2).bind fun bt305 => ((term_Below.f kj4 l1_0 l1_1 a2).bind fun t313 => (if 0 ≤ (l1_0.length : Int) then (if ((l1_0.length : Int) : Int).toNat ≤ 281474976710656 then ((some (List.replicate ((l1_0.length : Int) : Int).toNat false : List Bool)).bind fun y316 => (if 0 ≤ a2 then (if a2 < (y316.length : Int) then (tammylaw03_TermBelow.l0 kj4 a2 t303 t313 (y316.set (a2 : Int).toNat true) 0 l1_0 l1_1 bt305.1 bt305.2.1 bt305.2.2.1 bt305.2.2.2.1) else (none)) else (none))) else (none)) else (none)))) = some r := by rw [if_neg (show ¬ (false = true) by decide)] at H; exact H
        clear H
        have H := H1
        clear H1
        replace H := Option.bind_eq_some_iff.mp H
        obtain ⟨⟨t305, t306, t307, t308, t311⟩, A190, H⟩ := H
        replace H : ((term_Below.f kj4 l1_0 l1_1 a2).bind fun t313 => (if 0 ≤ (l1_0.length : Int) then (if ((l1_0.length : Int) : Int).toNat ≤ 281474976710656 then ((some (List.replicate ((l1_0.length : Int) : Int).toNat false : List Bool)).bind fun y316 => (if 0 ≤ a2 then (if a2 < (y316.length : Int) then (tammylaw03_TermBelow.l0 kj4 a2 t303 t313 (y316.set (a2 : Int).toNat true) 0 l1_0 l1_1 t305 t306 t307 t308) else (none)) else (none))) else (none)) else (none))) = some r := H
        have A19 := Aside0.mk A190
        clear A190
        replace H := Option.bind_eq_some_iff.mp H
        obtain ⟨t313, A200, H⟩ := H
        replace H : (if 0 ≤ (l1_0.length : Int) then (if ((l1_0.length : Int) : Int).toNat ≤ 281474976710656 then ((some (List.replicate ((l1_0.length : Int) : Int).toNat false : List Bool)).bind fun y316 => (if 0 ≤ a2 then (if a2 < (y316.length : Int) then (tammylaw03_TermBelow.l0 kj4 a2 t303 t313 (y316.set (a2 : Int).toNat true) 0 l1_0 l1_1 t305 t306 t307 t308) else (none)) else (none))) else (none)) else (none)) = some r := H
        have A20 := Aside0.mk A200
        clear A200
        by_cases c21 : 0 ≤ (l1_0.length : Int)
        · rw [if_pos c21] at H
          have c21b0 := eq_true c21
          have c21b1 : decide (0 ≤ (l1_0.length : Int)) = true := decide_eq_true c21
          clear c21
          by_cases c22 : ((l1_0.length : Int) : Int).toNat ≤ 281474976710656
          · rw [if_pos c22] at H
            have c22b0 := eq_true c22
            have c22b1 : decide (((l1_0.length : Int) : Int).toNat ≤ 281474976710656) = true := decide_eq_true c22
            clear c22
            obtain ⟨y316, hy316⟩ : ∃ y_ : List Bool, y_ = (List.replicate ((l1_0.length : Int) : Int).toNat false) := ⟨_, rfl⟩
            replace H : (if 0 ≤ a2 then (if a2 < (y316.length : Int) then (tammylaw03_TermBelow.l0 kj4 a2 t303 t313 (y316.set (a2 : Int).toNat true) 0 l1_0 l1_1 t305 t306 t307 t308) else (none)) else (none)) = some r := by first | (rw [hy316]; with_reducible exact H) | (have H2_ := (Option.bind_some _ _).symm.trans H; rw [hy316]; with_reducible exact H2_) | (have H2_ := (Option.bind_some _ _).symm.trans H; with_reducible exact H2_) | with_reducible exact H | (rw [hy316]; exact H) | exact H
            have Ny316 := Aside0.mk hy316
            clear hy316
            by_cases c23 : 0 ≤ a2
            · rw [if_pos c23] at H
              have c23b0 : decide (0 ≤ a2) = true := decide_eq_true c23
              clear c23
              by_cases c24 : a2 < (y316.length : Int)
              · rw [if_pos c24] at H
                have c24b0 : decide (a2 < (y316.length : Int)) = true := decide_eq_true c24
                clear c24
                obtain ⟨y319, hy319⟩ : ∃ y_ : List Bool, y_ = (y316.set (a2 : Int).toNat true) := ⟨_, rfl⟩
                replace H : (tammylaw03_TermBelow.l0 kj4 a2 t303 t313 y319 0 l1_0 l1_1 t305 t306 t307 t308) = some r := by first | (rw [hy319]; with_reducible exact H) | (have H2_ := (Option.bind_some _ _).symm.trans H; rw [hy319]; with_reducible exact H2_) | (have H2_ := (Option.bind_some _ _).symm.trans H; with_reducible exact H2_) | with_reducible exact H | (rw [hy319]; exact H) | exact H
                have Ny319 := Aside0.mk hy319
                clear hy319
                have H' := Aside0.mk H
                clear H
                have hcz26_0 : wc.cell? ⟨gb302, 0, none⟩ = some (.slice A1_0 l1_0.length c1_0) := (blk_cell BK302.out 0).trans rfl
                have hcz26_1 : wc.cell? ⟨gb302, 1, none⟩ = some (.slice A1_1 l1_1.length c1_1) := (blk_cell BK302.out 1).trans rfl
                have hfz26_0 := blk_frozen BK302.out 0
                have hfz26_1 := blk_frozen BK302.out 1
                go_wp2_with (first | ((with_reducible refine gate_callee (f := 13) rfl ?_); refine goesL_ (some 37) rfl rfl Try.func13 (by kernel_rfl) rfl #[.agg #[.slice A1_0 l1_0.length c1_0, .slice A1_1 l1_1.length c1_1], .int .i64 a2] rfl (by (try simp only [List.map_toArray, List.map_cons, List.map_nil]); first | done | rfl | (simp only [List.length_drop, List.length_take]; rfl)) ?_; (with_reducible refine (term_Of.calls _ _ l1_0 _ _ l1_1 a2 t305 t306 t307 t308 t311 _ ?side1 ?side2 ?side3 ?side4 A19.out).mono ?_); (case side1 => repeat (first | exact (Kd.C_below HR1_0.out HB.out) | (with_reducible refine Kd.C_alloc ?_ _) | (with_reducible refine Kd.C_drewN ?_ _) | (with_reducible refine Kd.C_drew ?_))); (case side2 => exact HC1_0.out); (case side3 => repeat (first | exact (Kd.C_below HR1_1.out HB.out) | (with_reducible refine Kd.C_alloc ?_ _) | (with_reducible refine Kd.C_drewN ?_ _) | (with_reducible refine Kd.C_drew ?_))); (case side4 => exact HC1_1.out); rintro e w27 ⟨v309, rfl, ho0, hb⟩; refine ⟨_, rfl, ?_⟩; have n0_ := Aside0.mk (Kd.R_lower ho0 (below_size (by repeat (first | (with_reducible first | exact HB.out | apply below_alloc | apply pw_below_drewN | apply below_drew1 | refine below_set ?_ GE302.out) | exact HB.out)))); have n1_ := Aside0.mk (blk_below (g := gb302) (o := .cells #[.slice A1_0 l1_0.length c1_0, .slice A1_1 l1_1.length c1_1] 26 (0, 0)) (by (with_reducible repeat (first | refine blk_drewN ?_ _ | refine blk_drew ?_ | refine blk_alloc ?_ _)); exact BK302.out) hb); have n2_ := Aside0.mk (below_step (by repeat (first | (with_reducible first | exact HB.out | apply below_alloc | apply pw_below_drewN | apply below_drew1 | refine below_set ?_ GE302.out) | exact HB.out)) hb); clear BK302; clear HB; have HO310 := n0_; have BK302 := n1_; have HB := n2_; clear n0_ n1_ n2_; (try clear hb); (try clear hb2); (try clear hk); (try clear hi); (try clear ho0)) | ((with_reducible refine gate_dst (N := 8) rfl ?_); (try (refine gate_guard (by rfl) ?_; dsimp only)); refine box_event ?hg (N := 8) ?hd (cs := #[.int .i64 0, .int .i64 0, .int .i64 0, .slice none 0 0]) (t := 28) ?hr ?_; (case hd => rfl); (case hg => rfl); (case hr => first | (go_simp; done) | (go_simp; rfl)); intro gb312 hg w28 hbox hb; have n0_ := Aside0.mk (Kd.R_below (by (with_reducible repeat (first | apply Kd.R_alloc | apply Kd.R_drewN | apply Kd.R_drew)); exact HO310.out) hb); have n1_ := Aside0.mk (blk_below (g := gb302) (o := .cells #[.slice A1_0 l1_0.length c1_0, .slice A1_1 l1_1.length c1_1] 26 (0, 0)) (by (with_reducible repeat (first | refine blk_drewN ?_ _ | refine blk_drew ?_ | refine blk_alloc ?_ _)); exact BK302.out) hb); have n2_ := Aside0.mk (below_step (by repeat (first | (with_reducible first | exact HB.out | apply below_alloc | apply pw_below_drewN | apply below_drew1 | refine below_set ?_ GE302.out) | exact HB.out)) hb); have n3_ := Aside0.mk (hbox); have n4_ := Aside0.mk ((by rw [hg]; exact (below_size (by repeat (first | (with_reducible first | exact HB.out | apply below_alloc | apply pw_below_drewN | apply below_drew1 | refine below_set ?_ GE302.out) | exact HB.out))) : w.heap.size ≤ gb312)); have n5_ := Aside0.mk ((by rw [hg]; exact (below_size (by repeat (first | (with_reducible first | exact HB.out | apply below_alloc | apply pw_below_drewN | apply below_drew1 | refine below_set ?_ GE302.out) | exact HB.out))) : w.heap.size ≤ gb312)); have n6_ := Aside0.mk ((by rw [hg]; exact Nat.ne_of_lt (blk_lt (g := gb302) (o := .cells #[.slice A1_0 l1_0.length c1_0, .slice A1_1 l1_1.length c1_1] 26 (0, 0)) (by (with_reducible repeat (first | refine blk_drewN ?_ _ | refine blk_drew ?_ | refine blk_alloc ?_ _)); exact BK302.out)) : gb302 ≠ gb312)); have n7_ := Aside0.mk ((by rw [hg]; exact Nat.ne_of_gt (blk_lt (g := gb302) (o := .cells #[.slice A1_0 l1_0.length c1_0, .slice A1_1 l1_1.length c1_1] 26 (0, 0)) (by (with_reducible repeat (first | refine blk_drewN ?_ _ | refine blk_drew ?_ | refine blk_alloc ?_ _)); exact BK302.out)) : gb312 ≠ gb302)); clear HO310; clear BK302; clear HB; have HO310 := n0_; have BK302 := n1_; have HB := n2_; have BK312 := n3_; have GW312 := n4_; have GE312 := n5_; have NB302_312 := n6_; have NB312_302 := n7_; clear n0_ n1_ n2_ n3_ n4_ n5_ n6_ n7_; clear hb hbox hg; have hnb29 := NB312_302.out; have hnc29 := NB302_312.out; have hcz30_0 : w28.cell? ⟨gb312, 0, none⟩ = some (.int .i64 0) := (blk_cell BK312.out 0).trans rfl; have hcz30_1 : w28.cell? ⟨gb312, 1, none⟩ = some (.int .i64 0) := (blk_cell BK312.out 1).trans rfl; have hcz30_2 : w28.cell? ⟨gb312, 2, none⟩ = some (.int .i64 0) := (blk_cell BK312.out 2).trans rfl; have hcz30_3 : w28.cell? ⟨gb312, 3, none⟩ = some (.slice none 0 0) := (blk_cell BK312.out 3).trans rfl; have hfz30_0 := blk_frozen BK312.out 0; have hfz30_1 := blk_frozen BK312.out 1; have hfz30_2 := blk_frozen BK312.out 2; have hfz30_3 := blk_frozen BK312.out 3; obtain ⟨Ao31, co31, eo31⟩ := Kd.R_slice HO310.out; subst eo31; have hcz32_0 : w28.cell? ⟨gb302, 0, none⟩ = some (.slice A1_0 l1_0.length c1_0) := (blk_cell BK302.out 0).trans rfl; have hcz32_1 : w28.cell? ⟨gb302, 1, none⟩ = some (.slice A1_1 l1_1.length c1_1) := (blk_cell BK302.out 1).trans rfl; have hfz32_0 := blk_frozen BK302.out 0; have hfz32_1 := blk_frozen BK302.out 1) | ((with_reducible refine gate_callee (f := 11) rfl ?_); refine goesL_ (some 42) rfl rfl Try.func11 (by kernel_rfl) rfl #[.agg #[.slice A1_0 l1_0.length c1_0, .slice A1_1 l1_1.length c1_1], .int .i64 a2] rfl (by (try simp only [List.map_toArray, List.map_cons, List.map_nil]); first | done | rfl | (simp only [List.length_drop, List.length_take]; rfl)) ?_; (with_reducible refine (term_Below.calls kj4 _ _ l1_0 _ _ l1_1 a2 t313 _ ?side1 ?side2 ?side3 ?side4 A20.out).mono ?_); (case side1 => exact Kd.C_below HR1_0.out (by repeat (first | (with_reducible first | exact HB.out | apply below_alloc | apply pw_below_drewN | apply below_drew1 | refine below_set ?_ GE302.out | refine below_set ?_ GE312.out) | exact HB.out))); (case side2 => exact HC1_0.out); (case side3 => exact Kd.C_below HR1_1.out (by repeat (first | (with_reducible first | exact HB.out | apply below_alloc | apply pw_below_drewN | apply below_drew1 | refine below_set ?_ GE302.out | refine below_set ?_ GE312.out) | exact HB.out))); (case side4 => exact HC1_1.out); rintro e w33 ⟨v314, rfl, ho0, hb⟩; refine ⟨_, rfl, ?_⟩; have n0_ := Aside0.mk (Kd.R_elder' (by (with_reducible repeat (first | apply Kd.R_alloc | apply Kd.R_drewN | apply Kd.R_drew)); exact (Kd.R_mono (Kd.R_far (p := ⟨gb312, 3, none⟩) (Kd.R_far (p := ⟨gb312, 2, none⟩) (Kd.R_far (p := ⟨gb312, 1, none⟩) (Kd.R_far (p := ⟨gb312, 0, none⟩) (Kd.R_types HO310.out BK312.out (by decide)) (fun _ hk => hk.2) (.int .i64 t305)) (fun _ hk => hk.2) (.int .i64 t306)) (fun _ hk => hk.2) (.int .i64 t307)) (fun _ hk => hk.2) (.slice Ao31 t308.length co31)) (fun _ h_ => h_.1))) (Kd.R_base ho0) hb); have n1_ := Aside0.mk (Kd.R_lower (Kd.R_new' ho0 (Kd.R_lt (by (with_reducible repeat (first | apply Kd.R_alloc | apply Kd.R_drewN | apply Kd.R_drew)); exact (Kd.R_mono (Kd.R_far (p := ⟨gb312, 3, none⟩) (Kd.R_far (p := ⟨gb312, 2, none⟩) (Kd.R_far (p := ⟨gb312, 1, none⟩) (Kd.R_far (p := ⟨gb312, 0, none⟩) (Kd.R_types HO310.out BK312.out (by decide)) (fun _ hk => hk.2) (.int .i64 t305)) (fun _ hk => hk.2) (.int .i64 t306)) (fun _ hk => hk.2) (.int .i64 t307)) (fun _ hk => hk.2) (.slice Ao31 t308.length co31)) (fun _ h_ => h_.1))))) (below_size (by repeat (first | (with_reducible first | exact HB.out | apply below_alloc | apply pw_below_drewN | apply below_drew1 | refine below_set ?_ GE302.out | refine below_set ?_ GE312.out) | exact HB.out)))); have n2_ := Aside0.mk (blk_below (g := gb302) (o := .cells #[.slice A1_0 l1_0.length c1_0, .slice A1_1 l1_1.length c1_1] 26 (0, 0)) (by (with_reducible repeat (first | refine blk_drewN ?_ _ | refine blk_drew ?_ | refine blk_alloc ?_ _)); refine blk_far ?_ NB302_312.out _; (with_reducible repeat (first | refine blk_drewN ?_ _ | refine blk_drew ?_ | refine blk_alloc ?_ _)); refine blk_far ?_ NB302_312.out _; (with_reducible repeat (first | refine blk_drewN ?_ _ | refine blk_drew ?_ | refine blk_alloc ?_ _)); refine blk_far ?_ NB302_312.out _; (with_reducible repeat (first | refine blk_drewN ?_ _ | refine blk_drew ?_ | refine blk_alloc ?_ _)); refine blk_far ?_ NB302_312.out _; (with_reducible repeat (first | refine blk_drewN ?_ _ | refine blk_drew ?_ | refine blk_alloc ?_ _)); exact BK302.out) hb); have n3_ := Aside0.mk (blk_below (g := gb312) (o := .cells #[.int .i64 t305, .int .i64 t306, .int .i64 t307, .slice Ao31 t308.length co31] 28 (0, 0)) (by (with_reducible repeat (first | refine blk_drewN ?_ _ | refine blk_drew ?_ | refine blk_alloc ?_ _)); refine blk_put (cs := #[.int .i64 t305, .int .i64 t306, .int .i64 t307, .slice none 0 0]) ?_ 3 _ rfl; (with_reducible repeat (first | refine blk_drewN ?_ _ | refine blk_drew ?_ | refine blk_alloc ?_ _)); refine blk_put (cs := #[.int .i64 t305, .int .i64 t306, .int .i64 0, .slice none 0 0]) ?_ 2 _ rfl; (with_reducible repeat (first | refine blk_drewN ?_ _ | refine blk_drew ?_ | refine blk_alloc ?_ _)); refine blk_put (cs := #[.int .i64 t305, .int .i64 0, .int .i64 0, .slice none 0 0]) ?_ 1 _ rfl; (with_reducible repeat (first | refine blk_drewN ?_ _ | refine blk_drew ?_ | refine blk_alloc ?_ _)); refine blk_put (cs := #[.int .i64 0, .int .i64 0, .int .i64 0, .slice none 0 0]) ?_ 0 _ rfl; (with_reducible repeat (first | refine blk_drewN ?_ _ | refine blk_drew ?_ | refine blk_alloc ?_ _)); exact BK312.out) hb); have n4_ := Aside0.mk (below_step (by repeat (first | (with_reducible first | exact HB.out | apply below_alloc | apply pw_below_drewN | apply below_drew1 | refine below_set ?_ GE302.out | refine below_set ?_ GE312.out) | exact HB.out)) hb); clear HO310; clear BK302; clear BK312; clear HB; have HO310 := n0_; have HO315 := n1_; have BK302 := n2_; have BK312 := n3_; have HB := n4_; clear n0_ n1_ n2_ n3_ n4_; (try clear hb); (try clear hb2); (try clear hk); (try clear hi); (try clear ho0); have hcz34_0 : w33.cell? ⟨gb302, 0, none⟩ = some (.slice A1_0 l1_0.length c1_0) := (blk_cell BK302.out 0).trans rfl; have hcz34_1 : w33.cell? ⟨gb302, 1, none⟩ = some (.slice A1_1 l1_1.length c1_1) := (blk_cell BK302.out 1).trans rfl; have hfz34_0 := blk_frozen BK302.out 0; have hfz34_1 := blk_frozen BK302.out 1) | ((with_reducible refine gate_dst (N := 46) rfl ?_); (try (refine gate_guard (by rfl) ?_; dsimp only)); refine Kd.R_make Kd.bool _ 4 rfl (N := 46) rfl 44 _ _ rfl (l1_0.length : Int) rfl rfl Try.underlying44 (.bool false) 1 info4 rfl (by decide) (by omega) false (ok := fun _ => True) (okp := fun _ => True) rfl (fun _ hk => hk) trivial (of_decide_eq_true (by first | (with_reducible assumption) | assumption)) (Nat.le_trans (Nat.mul_le_mul_right _ (of_decide_eq_true (by first | (with_reducible assumption) | assumption) : (l1_0.length : Int).toNat ≤ 281474976710656)) (by omega)) (Below.refl _ _) (Nat.le_refl _) ?_; intro v317 w35 ho36 hb hg_ hnew_; clear hg_ hnew_; (first | rw [← Ny316.out] at ho36 | (simp only [Int.reduceToNat] at ho36; rw [← Ny316.out] at ho36)); have n0_ := Aside0.mk (Kd.R_below (by (with_reducible repeat (first | apply Kd.R_alloc | apply Kd.R_drewN | apply Kd.R_drew)); exact HO310.out) hb); have n1_ := Aside0.mk (Kd.R_below (by (with_reducible repeat (first | apply Kd.R_alloc | apply Kd.R_drewN | apply Kd.R_drew)); exact HO315.out) hb); have n2_ := Aside0.mk (Kd.R_lower ho36 (below_size (by repeat (first | (with_reducible first | exact HB.out | apply below_alloc | apply pw_below_drewN | apply below_drew1 | refine below_set ?_ GE302.out | refine below_set ?_ GE312.out) | exact HB.out)))); have n3_ := Aside0.mk (blk_below (g := gb302) (o := .cells #[.slice A1_0 l1_0.length c1_0, .slice A1_1 l1_1.length c1_1] 26 (0, 0)) (by (with_reducible repeat (first | refine blk_drewN ?_ _ | refine blk_drew ?_ | refine blk_alloc ?_ _)); exact BK302.out) hb); have n4_ := Aside0.mk (blk_below (g := gb312) (o := .cells #[.int .i64 t305, .int .i64 t306, .int .i64 t307, .slice Ao31 t308.length co31] 28 (0, 0)) (by (with_reducible repeat (first | refine blk_drewN ?_ _ | refine blk_drew ?_ | refine blk_alloc ?_ _)); exact BK312.out) hb); have n5_ := Aside0.mk (below_step (by repeat (first | (with_reducible first | exact HB.out | apply below_alloc | apply pw_below_drewN | apply below_drew1 | refine below_set ?_ GE302.out | refine below_set ?_ GE312.out) | exact HB.out)) hb); clear HO310; clear HO315; clear BK302; clear BK312; clear HB; have HO310 := n0_; have HO315 := n1_; have HO318 := n2_; have BK302 := n3_; have BK312 := n4_; have HB := n5_; clear n0_ n1_ n2_ n3_ n4_ n5_; clear hb ho36; have p25 : 0 ≤ (a2 : Int) := of_decide_eq_true (by first | (with_reducible assumption) | assumption); have q25 : (a2 : Int) < ((y316.length : Int) : Int) := of_decide_eq_true (by first | (with_reducible assumption) | assumption); obtain ⟨go25, co25, eo25, gb25, gl25, cl25, HG25⟩ := Kd.R_form HO318.out (by omega); (first | cases eo25 | (injection eo25 with ea_ en_ ec_; (first | subst ea_ | (injection ea_ with ea_; subst ea_)); subst ec_; clear en_)); have GB25 := Aside0.mk gb25; have GG25 := Aside0.mk HG25; clear gb25 gl25 HG25; obtain ⟨hx25_0, hf25_0⟩ := Kd.R_celln false HO318.out (a2 : Int) p25 q25; replace p25 := eq_true p25; replace q25 := eq_true q25; obtain ⟨hy37_, hz37_⟩ := Kd.R_celln false HO318.out (a2 : Int) (of_decide_eq_true (by first | (with_reducible assumption) | assumption)) (of_decide_eq_true (by first | (with_reducible assumption) | assumption)); have HP37 := Kd.R_putg HO318.out (a2 : Int) true) | ((with_reducible refine gate_store (t := 4) (p := 49) rfl ?_); refine store_event (t := 4) (p := 49) (v := ?vo_w38) (w1 := (w35.setCell ⟨go25, (a2 : Int).toNat, none⟩ (.bool true))) ?hg ?ho ?hn ?hr ?_; (case ho => rfl); (case hg => rfl); (case hn => rfl); (case hr => first | (go_simp; done) | (go_simp; rfl)); intro w38 hw; have hg : w35.grownBy w38 (some go25) := (by rw [hw]; exact HP37.2); have hp_ : Kd.R Kd.bool 4 w38 w.heap.size (fun _ => True) (.slice (some ⟨go25, 0, none⟩) y316.length co25) y319 := (by rw [hw, Ny319.out]; exact HP37.1); clear HP37; have n0_ := Aside0.mk (blk_grown (g := gb302) (o := .cells #[.slice A1_0 l1_0.length c1_0, .slice A1_1 l1_1.length c1_1] 26 (0, 0)) (by (with_reducible repeat (first | refine blk_drewN ?_ _ | refine blk_drew ?_ | refine blk_alloc ?_ _)); exact BK302.out) hg (Kd.R_ne HO318.out BK302.out (by decide))); have n1_ := Aside0.mk (Kd.R_over' (v := (.slice (some ⟨go25, 0, none⟩) y316.length co25)) (by (with_reducible repeat (first | apply Kd.R_alloc | apply Kd.R_drewN | apply Kd.R_drew)); exact HO310.out) (Kd.R_typed HO318.out) (by decide) hg); have n2_ := Aside0.mk (blk_grown (g := gb312) (o := .cells #[.int .i64 t305, .int .i64 t306, .int .i64 t307, .slice Ao31 t308.length co31] 28 (0, 0)) (by (with_reducible repeat (first | refine blk_drewN ?_ _ | refine blk_drew ?_ | refine blk_alloc ?_ _)); exact BK312.out) hg (Kd.R_ne HO318.out BK312.out (by decide))); have n3_ := Aside0.mk (Kd.R_over' (v := (.slice (some ⟨go25, 0, none⟩) y316.length co25)) (by (with_reducible repeat (first | apply Kd.R_alloc | apply Kd.R_drewN | apply Kd.R_drew)); exact HO315.out) (Kd.R_typed HO318.out) (by decide) hg); have n4_ := Aside0.mk (hp_); have n5_ := Aside0.mk ((by rw [hw]; exact below_set (HB.out) GB25.out : Below w.heap.size w w38)); clear BK302; clear HO310; clear BK312; clear HO315; clear HO318; clear HB; have BK302 := n0_; have HO310 := n1_; have BK312 := n2_; have HO315 := n3_; have HO318 := n4_; have HB := n5_; clear n0_ n1_ n2_ n3_ n4_ n5_; clear hg hw hp_))
                go_loopg [12] kj4 (fun kq v12 w' => ∃ (x11_2 : List Bool) (x12_2 : Int), v12 = .int .i64 x12_2 ∧ Aside0 (tammylaw03_TermBelow.l0 kq a2 t303 t313 x11_2 x12_2 l1_0 l1_1 t305 t306 t307 t308 = some r) ∧ Aside0 (kq ≤ kj4) ∧ Aside0 (Kd.R (Kd.int .i64) 3 w' w.heap.size (fun k_ => some k_ ≠ ((.slice Ao31 t308.length co31) : Value).ownBlock) v314 t313) ∧ Aside0 (Kd.R Kd.bool 4 w' w.heap.size (fun _ => True) (.slice (some ⟨go25, 0, none⟩) y316.length co25) x11_2) ∧ Aside0 (Kd.R (Kd.int .i64) 3 w' w.heap.size (fun k_ => some k_ ≠ (v314 : Value).ownBlock) (.slice Ao31 t308.length co31) t308) ∧ Aside0 (w'.heap[gb302]? = some (.cells #[(.slice A1_0 l1_0.length c1_0), (.slice A1_1 l1_1.length c1_1)] 26 (0, 0))) ∧ Aside0 (w'.heap[gb312]? = some (.cells #[.int .i64 t305, .int .i64 t306, .int .i64 t307, (.slice Ao31 t308.length co31)] 28 (0, 0))) ∧ Aside0 (Below w.heap.size w w'))
                case atStart => exact ⟨(y319), (0), (by first | rfl | (simp; done) | (simp [*]; done)), H', ⟨Nat.le_refl _⟩, ⟨by (with_reducible repeat (first | apply Kd.R_alloc | apply Kd.R_drewN | apply Kd.R_drew)); exact Kd.R_mono HO315.out (fun _ hk => hk.2)⟩, ⟨by (with_reducible repeat (first | apply Kd.R_alloc | apply Kd.R_drewN | apply Kd.R_drew)); exact HO318.out⟩, ⟨by (with_reducible repeat (first | apply Kd.R_alloc | apply Kd.R_drewN | apply Kd.R_drew)); exact Kd.R_mono HO310.out (fun _ hk => hk.2)⟩, ⟨by (with_reducible repeat (first | refine blk_drewN ?_ _ | refine blk_drew ?_ | refine blk_alloc ?_ _)); exact BK302.out⟩, ⟨by (with_reducible repeat (first | refine blk_drewN ?_ _ | refine blk_drew ?_ | refine blk_alloc ?_ _)); exact BK312.out⟩, ⟨by repeat (first | (with_reducible first | exact HB.out | apply below_alloc | apply pw_below_drewN | apply below_drew1 | refine below_set ?_ GE302.out | refine below_set ?_ GE312.out) | exact HB.out)⟩⟩
                case round =>
                  clear H'
                  try clear c1
                  try clear c2
                  try clear p2
                  try clear q2
                  try clear hx2
                  try clear c4
                  try clear c5
                  try clear c6
                  try clear c9
                  try clear c10
                  try clear c10b0
                  try clear c11
                  try clear c13
                  try clear c18
                  try clear c21
                  try clear c21b0
                  try clear c21b1
                  try clear c22
                  try clear c22b0
                  try clear c22b1
                  try clear c23
                  try clear c23b0
                  try clear c24
                  try clear c24b0
                  try clear p25
                  try clear q25
                  try clear hx25
                  try clear hf25
                  try clear c29
                  try clear hcz11_0
                  try clear hcz11_1
                  try clear hcz13_0
                  try clear hcz13_1
                  try clear hcz15_0
                  try clear hcz15_1
                  try clear hcz16_0
                  try clear hcz16_1
                  try clear hcz26_0
                  try clear hcz26_1
                  try clear hcz30_0
                  try clear hcz30_1
                  try clear hcz30_2
                  try clear hcz30_3
                  try clear hcz32_0
                  try clear hcz32_1
                  try clear hcz34_0
                  try clear hcz34_1
                  try clear hfz11_0
                  try clear hfz11_1
                  try clear hfz13_0
                  try clear hfz13_1
                  try clear hfz15_0
                  try clear hfz15_1
                  try clear hfz16_0
                  try clear hfz16_1
                  try clear hfz26_0
                  try clear hfz26_1
                  try clear hfz30_0
                  try clear hfz30_1
                  try clear hfz30_2
                  try clear hfz30_3
                  try clear hfz32_0
                  try clear hfz32_1
                  try clear hfz34_0
                  try clear hfz34_1
                  try clear hx25_0
                  try clear p2
                  try clear p25
                  try clear q25
                  obtain ⟨x11_2, x12_2, rfl, HA, HK2, HO_10, HO_11, HO_313003, BK302, BK312, HB⟩ := hrel
                  have hl11_2 := (Kd.R_reads' HO_11.out).1
                  rw [hl11_2] at HO_11
                  (try simp only [hl11_2])
                  (try simp only [hl11_2] at BK302)
                  (try simp only [hl11_2] at BK312)
                  (try simp only [hl11_2] at HO_10)
                  (try simp only [hl11_2] at HO_313003)
                  cases gk with
                  | zero => exact absurd HA.out (by simp [tammylaw03_TermBelow.l0])
                  | succ k2 =>
                    have H := HA.out
                    clear HA
                    simp only [tammylaw03_TermBelow.l0] at H
                    by_cases c39 : x12_2 < (t308.length : Int)
                    · rw [if_pos c39] at H
                      have c39b0 : decide (x12_2 < (t308.length : Int)) = true := decide_eq_true c39
                      clear c39
                      have HC40 := Aside0.mk H
                      clear H
                      have hnb41 := NB312_302.out
                      have hnc41 := NB302_312.out
                      have hcz42_0 : wr.cell? ⟨gb312, 0, none⟩ = some (.int .i64 t305) := (blk_cell BK312.out 0).trans rfl
                      have hcz42_1 : wr.cell? ⟨gb312, 1, none⟩ = some (.int .i64 t306) := (blk_cell BK312.out 1).trans rfl
                      have hcz42_2 : wr.cell? ⟨gb312, 2, none⟩ = some (.int .i64 t307) := (blk_cell BK312.out 2).trans rfl
                      have hcz42_3 : wr.cell? ⟨gb312, 3, none⟩ = some (.slice Ao31 t308.length co31) := (blk_cell BK312.out 3).trans rfl
                      have hfz42_0 := blk_frozen BK312.out 0
                      have hfz42_1 := blk_frozen BK312.out 1
                      have hfz42_2 := blk_frozen BK312.out 2
                      have hfz42_3 := blk_frozen BK312.out 3
                      go_upto_region 11 with (fail)
                      go_cut [71] (fun v71 wc => ∃ (kq : Nat) (x71_39 : Bool), v71 = .bool x71_39 ∧ Aside0 (tammylaw03_TermBelow.j2 kq a2 t303 t313 x11_2 x12_2 x71_39 l1_0 l1_1 t305 t306 t307 t308 = some r) ∧ Aside0 (kq ≤ k2) ∧ Aside0 (Kd.R (Kd.int .i64) 3 wc w.heap.size (fun k_ => some k_ ≠ ((.slice Ao31 t308.length co31) : Value).ownBlock) v314 t313) ∧ Aside0 (Kd.R Kd.bool 4 wc w.heap.size (fun _ => True) (.slice (some ⟨go25, 0, none⟩) x11_2.length co25) x11_2) ∧ Aside0 (Kd.R (Kd.int .i64) 3 wc w.heap.size (fun k_ => some k_ ≠ (v314 : Value).ownBlock) (.slice Ao31 t308.length co31) t308) ∧ Aside0 (wc.heap[gb302]? = some (.cells #[(.slice A1_0 l1_0.length c1_0), (.slice A1_1 l1_1.length c1_1)] 26 (0, 0))) ∧ Aside0 (wc.heap[gb312]? = some (.cells #[.int .i64 t305, .int .i64 t306, .int .i64 t307, (.slice Ao31 t308.length co31)] 28 (0, 0))) ∧ Aside0 (Below w.heap.size w wc))
                      case first =>
                        have H := HC40.out
                        clear HC40
                        by_cases c43 : 0 ≤ x12_2
                        · rw [if_pos c43] at H
                          have c43b0 : decide (0 ≤ x12_2) = true := decide_eq_true c43
                          clear c43
                          (first | rw [c43b0] | (simp only [i64_w, i32_w]; rw [c43b0]) | skip)
                          by_cases c44 : (rd t308 x12_2) < 0
                          · rw [if_pos c44] at H
                            have c44b0 : decide ((rd t308 x12_2) < 0) = true := decide_eq_true c44
                            clear c44
                            have H' := Aside0.mk H
                            clear H
                            have hnb45 := NB312_302.out
                            have hnc45 := NB302_312.out
                            have hcz46_0 : wr.cell? ⟨gb312, 0, none⟩ = some (.int .i64 t305) := (blk_cell BK312.out 0).trans rfl
                            have hcz46_1 : wr.cell? ⟨gb312, 1, none⟩ = some (.int .i64 t306) := (blk_cell BK312.out 1).trans rfl
                            have hcz46_2 : wr.cell? ⟨gb312, 2, none⟩ = some (.int .i64 t307) := (blk_cell BK312.out 2).trans rfl
                            have hcz46_3 : wr.cell? ⟨gb312, 3, none⟩ = some (.slice Ao31 t308.length co31) := (blk_cell BK312.out 3).trans rfl
                            have hfz46_0 := blk_frozen BK312.out 0
                            have hfz46_1 := blk_frozen BK312.out 1
                            have hfz46_2 := blk_frozen BK312.out 2
                            have hfz46_3 := blk_frozen BK312.out 3
                            have p320 : 0 ≤ (x12_2 : Int) := of_decide_eq_true (by first | (with_reducible assumption) | assumption)
                            have q320 : x12_2 < (t308.length : Int) := of_decide_eq_true (by first | (with_reducible assumption) | assumption)
                            obtain ⟨ad320, e320, hx320_0⟩ := Kd.at_int (Kd.R_reads' HO_313003.out).2.2 x12_2 p320 q320
                            cases e320
                            replace p320 := eq_true p320
                            replace q320 := eq_true q320
                            go_wp2
                            go_meet
                            case rel => exact ⟨_, (true), (by first | rfl | (simp; done) | (simp [*]; done)), H', ⟨by have := HJ4.out; have := HK2.out; first | omega | exact Nat.le_refl _⟩, ⟨by (try simp only [hl11_2]); (with_reducible repeat (first | apply Kd.R_alloc | apply Kd.R_drewN | apply Kd.R_drew)); exact HO_10.out⟩, ⟨by (try simp only [hl11_2]); (with_reducible repeat (first | apply Kd.R_alloc | apply Kd.R_drewN | apply Kd.R_drew)); exact HO_11.out⟩, ⟨by (try simp only [hl11_2]); (with_reducible repeat (first | apply Kd.R_alloc | apply Kd.R_drewN | apply Kd.R_drew)); exact HO_313003.out⟩, ⟨by (try simp only [hl11_2]); (with_reducible repeat (first | refine blk_drewN ?_ _ | refine blk_drew ?_ | refine blk_alloc ?_ _)); exact BK302.out⟩, ⟨by (try simp only [hl11_2]); (with_reducible repeat (first | refine blk_drewN ?_ _ | refine blk_drew ?_ | refine blk_alloc ?_ _)); exact BK312.out⟩, ⟨by repeat (first | (with_reducible first | exact HB.out | apply below_alloc | apply pw_below_drewN | apply below_drew1 | refine below_set ?_ GE302.out | refine below_set ?_ GE312.out) | exact HB.out)⟩⟩
                          · rw [if_neg c44] at H
                            have c44b0 : decide ((rd t308 x12_2) < 0) = false := decide_eq_false c44
                            clear c44
                            have H' := Aside0.mk H
                            clear H
                            have hnb47 := NB312_302.out
                            have hnc47 := NB302_312.out
                            have hcz48_0 : wr.cell? ⟨gb312, 0, none⟩ = some (.int .i64 t305) := (blk_cell BK312.out 0).trans rfl
                            have hcz48_1 : wr.cell? ⟨gb312, 1, none⟩ = some (.int .i64 t306) := (blk_cell BK312.out 1).trans rfl
                            have hcz48_2 : wr.cell? ⟨gb312, 2, none⟩ = some (.int .i64 t307) := (blk_cell BK312.out 2).trans rfl
                            have hcz48_3 : wr.cell? ⟨gb312, 3, none⟩ = some (.slice Ao31 t308.length co31) := (blk_cell BK312.out 3).trans rfl
                            have hfz48_0 := blk_frozen BK312.out 0
                            have hfz48_1 := blk_frozen BK312.out 1
                            have hfz48_2 := blk_frozen BK312.out 2
                            have hfz48_3 := blk_frozen BK312.out 3
                            have p320 : 0 ≤ (x12_2 : Int) := of_decide_eq_true (by first | (with_reducible assumption) | assumption)
                            have q320 : x12_2 < (t308.length : Int) := of_decide_eq_true (by first | (with_reducible assumption) | assumption)
                            obtain ⟨ad320, e320, hx320_0⟩ := Kd.at_int (Kd.R_reads' HO_313003.out).2.2 x12_2 p320 q320
                            cases e320
                            replace p320 := eq_true p320
                            replace q320 := eq_true q320
                            have p321 : 0 ≤ (x12_2 : Int) := of_decide_eq_true (by first | (with_reducible assumption) | assumption)
                            have q321 : x12_2 < (t308.length : Int) := of_decide_eq_true (by first | (with_reducible assumption) | assumption)
                            obtain ⟨ad321, e321, hx321_0⟩ := Kd.at_int (Kd.R_reads' HO_313003.out).2.2 x12_2 p321 q321
                            obtain rfl : ad320 = ad321 := (by injection e321)
                            replace p321 := eq_true p321
                            replace q321 := eq_true q321
                            go_wp2
                            go_meet
                            case rel => exact ⟨_, (decide ((rd t308 x12_2) ≥ a2)), (by first | rfl | (simp; done) | (simp [*]; done)), H', ⟨by have := HJ4.out; have := HK2.out; first | omega | exact Nat.le_refl _⟩, ⟨by (try simp only [hl11_2]); (with_reducible repeat (first | apply Kd.R_alloc | apply Kd.R_drewN | apply Kd.R_drew)); exact HO_10.out⟩, ⟨by (try simp only [hl11_2]); (with_reducible repeat (first | apply Kd.R_alloc | apply Kd.R_drewN | apply Kd.R_drew)); exact HO_11.out⟩, ⟨by (try simp only [hl11_2]); (with_reducible repeat (first | apply Kd.R_alloc | apply Kd.R_drewN | apply Kd.R_drew)); exact HO_313003.out⟩, ⟨by (try simp only [hl11_2]); (with_reducible repeat (first | refine blk_drewN ?_ _ | refine blk_drew ?_ | refine blk_alloc ?_ _)); exact BK302.out⟩, ⟨by (try simp only [hl11_2]); (with_reducible repeat (first | refine blk_drewN ?_ _ | refine blk_drew ?_ | refine blk_alloc ?_ _)); exact BK312.out⟩, ⟨by repeat (first | (with_reducible first | exact HB.out | apply below_alloc | apply pw_below_drewN | apply below_drew1 | refine below_set ?_ GE302.out | refine below_set ?_ GE312.out) | exact HB.out)⟩⟩
                        · rw [if_neg c43] at H
                          exact absurd H (by simp)
                      case rest =>
                        clear HC40
                        try clear c1
                        try clear c2
                        try clear p2
                        try clear q2
                        try clear hx2
                        try clear c3
                        try clear p3
                        try clear q3
                        try clear hx3
                        try clear c4
                        try clear c5
                        try clear c6
                        try clear c9
                        try clear c10
                        try clear c10b0
                        try clear c11
                        try clear c13
                        try clear c18
                        try clear c21
                        try clear c21b0
                        try clear c21b1
                        try clear c22
                        try clear c22b0
                        try clear c22b1
                        try clear c23
                        try clear c23b0
                        try clear c24
                        try clear c24b0
                        try clear p25
                        try clear q25
                        try clear hx25
                        try clear hf25
                        try clear c29
                        try clear p32
                        try clear q32
                        try clear hx32
                        try clear c39
                        try clear c39b0
                        try clear c41
                        try clear c43
                        try clear c43b0
                        try clear c44
                        try clear c44b0
                        try clear c45
                        try clear c47
                        try clear hcz11_0
                        try clear hcz11_1
                        try clear hcz13_0
                        try clear hcz13_1
                        try clear hcz15_0
                        try clear hcz15_1
                        try clear hcz16_0
                        try clear hcz16_1
                        try clear hcz26_0
                        try clear hcz26_1
                        try clear hcz30_0
                        try clear hcz30_1
                        try clear hcz30_2
                        try clear hcz30_3
                        try clear hcz32_0
                        try clear hcz32_1
                        try clear hcz34_0
                        try clear hcz34_1
                        try clear hcz42_0
                        try clear hcz42_1
                        try clear hcz42_2
                        try clear hcz42_3
                        try clear hcz46_0
                        try clear hcz46_1
                        try clear hcz46_2
                        try clear hcz46_3
                        try clear hcz48_0
                        try clear hcz48_1
                        try clear hcz48_2
                        try clear hcz48_3
                        try clear hfz11_0
                        try clear hfz11_1
                        try clear hfz13_0
                        try clear hfz13_1
                        try clear hfz15_0
                        try clear hfz15_1
                        try clear hfz16_0
                        try clear hfz16_1
                        try clear hfz26_0
                        try clear hfz26_1
                        try clear hfz30_0
                        try clear hfz30_1
                        try clear hfz30_2
                        try clear hfz30_3
                        try clear hfz32_0
                        try clear hfz32_1
                        try clear hfz34_0
                        try clear hfz34_1
                        try clear hfz42_0
                        try clear hfz42_1
                        try clear hfz42_2
                        try clear hfz42_3
                        try clear hfz46_0
                        try clear hfz46_1
                        try clear hfz46_2
                        try clear hfz46_3
                        try clear hfz48_0
                        try clear hfz48_1
                        try clear hfz48_2
                        try clear hfz48_3
                        try clear hx25_0
                        try clear hx320_0
                        try clear hx321_0
                        try clear p2
                        try clear p25
                        try clear p320
                        try clear p321
                        try clear q2
                        try clear q25
                        try clear q320
                        try clear q321
                        obtain ⟨kq, x71_39, rfl, HA, HJ39, HO_10, HO_11, HO_313003, BK302, BK312, HB⟩ := hcut
                        cases kq with
                        | zero => exact absurd HA.out (by simp [tammylaw03_TermBelow.j2])
                        | succ kj39 =>
                          have H := HA.out
                          clear HA
                          simp only [tammylaw03_TermBelow.j2] at H
                          by_cases c49 : x71_39 = true
                          · subst c49
                            have H1 : (some false) = some r := by rw [if_pos rfl] at H; exact H
                            clear H
                            have H := H1
                            clear H1
                            obtain rfl := Option.some.inj H
                            go_wp2
                            go_ret
                            exact ⟨by first | rfl | (simp [errW_none, errW_some] <;> rfl) | (simp [*, errW_none, errW_some] <;> rfl), by repeat (first | (with_reducible first | exact HB.out | apply below_alloc | apply pw_below_drewN | apply below_drew1 | refine below_set ?_ GE302.out | refine below_set ?_ GE312.out) | exact HB.out)⟩
                          · replace c49 := Bool.eq_false_iff.mpr c49
                            subst c49
                            have H1 : (if 0 ≤ x12_2 then (if x12_2 < (t308.length : Int) then ((term_Below.f kj39 l1_0 l1_1 (rd t308 x12_2)).bind fun t323 => (tammylaw03_TermBelow.l1 kj39 a2 t303 t313 x11_2 x12_2 t323 0 l1_0 l1_1 t305 t306 t307 t308)) else (none)) else (none)) = some r := by rw [if_neg (show ¬ (false = true) by decide)] at H; exact H
                            clear H
                            have H := H1
                            clear H1
                            by_cases c50 : 0 ≤ x12_2
                            · rw [if_pos c50] at H
                              have c50b0 : decide (0 ≤ x12_2) = true := decide_eq_true c50
                              clear c50
                              by_cases c51 : x12_2 < (t308.length : Int)
                              · rw [if_pos c51] at H
                                have c51b0 : decide (x12_2 < (t308.length : Int)) = true := decide_eq_true c51
                                clear c51
                                replace H := Option.bind_eq_some_iff.mp H
                                obtain ⟨t323, A520, H⟩ := H
                                replace H : (tammylaw03_TermBelow.l1 kj39 a2 t303 t313 x11_2 x12_2 t323 0 l1_0 l1_1 t305 t306 t307 t308) = some r := H
                                have A52 := Aside0.mk A520
                                clear A520
                                have H' := Aside0.mk H
                                clear H
                                try go_wp2
                                have n0_ := Aside0.mk (Kd.R_drew HO_10.out)
                                have n1_ := Aside0.mk (Kd.R_drew HO_11.out)
                                have n2_ := Aside0.mk (Kd.R_drew HO_313003.out)
                                have n3_ := Aside0.mk (blk_drew BK302.out)
                                have n4_ := Aside0.mk (blk_drew BK312.out)
                                have n5_ := Aside0.mk (below_drew1 HB.out)
                                clear HO_10
                                clear HO_11
                                clear HO_313003
                                clear BK302
                                clear BK312
                                clear HB
                                have HO_10 := n0_
                                have HO_11 := n1_
                                have HO_313003 := n2_
                                have BK302 := n3_
                                have BK312 := n4_
                                have HB := n5_
                                clear n0_ n1_ n2_ n3_ n4_ n5_
                                have p322 : 0 ≤ (x12_2 : Int) := of_decide_eq_true (by first | (with_reducible assumption) | assumption)
                                have q322 : x12_2 < (t308.length : Int) := of_decide_eq_true (by first | (with_reducible assumption) | assumption)
                                obtain ⟨ad322, e322, hx322_0⟩ := Kd.at_int (Kd.R_reads' HO_313003.out).2.2 x12_2 p322 q322
                                cases e322
                                replace p322 := eq_true p322
                                replace q322 := eq_true q322
                                refine start_ (n := 8) (S := fun w' => w'.cell? ⟨gb302, 0, none⟩ = some (.slice A1_0 l1_0.length c1_0) ∧ w'.cell? ⟨gb302, 1, none⟩ = some (.slice A1_1 l1_1.length c1_1) ∧ w'.cell? ⟨gb312, 0, none⟩ = some (.int .i64 t305) ∧ w'.cell? ⟨gb312, 1, none⟩ = some (.int .i64 t306) ∧ w'.cell? ⟨gb312, 2, none⟩ = some (.int .i64 t307) ∧ w'.cell? ⟨gb312, 3, none⟩ = some (.slice (some ad322) t308.length co31) ∧ w'.cell? (ad322.add (x12_2).toNat) = some (.int .i64 (rd t308 x12_2))) (ds := []) #[false, false, false, false, false, false, false, false] (by kernel_rfl) rfl rfl ⟨(blk_cell BK302.out 0).trans rfl, (blk_cell BK302.out 1).trans rfl, (blk_cell BK312.out 0).trans rfl, (blk_cell BK312.out 1).trans rfl, (blk_cell BK312.out 2).trans rfl, (blk_cell BK312.out 3).trans rfl, hx322_0⟩ (fun hHeld => ?_); refine with_tabW tammylaw03_TermBelow.tab13 tammylaw03_TermBelow.bits13 (fun HT_ HW_ => ?_)
                                generalize wc.drew = w53 at HO_10 HO_11 HO_313003 BK302 BK312 HB hx322_0 hHeld ⊢
                                refine pure_ (i := 1) (N := some 73) (v := ?_) (a' := ?_) #[false, true, false, false, false, false, false, false] rfl rfl (any_of HT_.out (by kernel_rfl)) (fun _ _ _ h => h) (Or.inl ⟨by rfl, ?_⟩) ?_ ?_
                                rotate_left
                                · intro w'
                                  go_simp
                                  with_reducible rfl
                                rotate_left
                                · simp only [Act.put, List.setIfInBounds_toArray, List.set_cons_zero, List.set_cons_succ, i64_w, i32_w]
                                  rfl
                                refine pure_ (i := 3) (N := some 75) (v := ?_) (a' := ?_) #[false, true, false, true, false, false, false, false] rfl rfl (any_of HT_.out (by kernel_rfl)) (fun _ _ _ h => h) (Or.inl ⟨by rfl, ?_⟩) ?_ ?_
                                rotate_left
                                · intro w'
                                  go_simp
                                  with_reducible rfl
                                rotate_left
                                · simp only [Act.put, List.setIfInBounds_toArray, List.set_cons_zero, List.set_cons_succ, i64_w, i32_w]
                                  rfl
                                refine take_ (i := 0) (N := some 72) (v := ?_) (a' := ?_) #[true, true, false, true, false, false, false, false] rfl rfl (take_ofW HT_.out HW_.out (by kernel_rfl)) (fun _ _ _ h => h) (Or.inl ⟨by rfl, ?_⟩) hHeld ?_ ?_
                                rotate_left
                                · rintro w' ⟨s0, s1, s2, s3, s4, s5, s6⟩
                                  go_simp
                                  with_reducible rfl
                                rotate_left
                                · simp only [Act.put, List.setIfInBounds_toArray, List.set_cons_zero, List.set_cons_succ, i64_w, i32_w]
                                  rfl
                                refine take_ (i := 2) (N := some 74) (v := ?_) (a' := ?_) #[true, true, true, true, false, false, false, false] rfl rfl (take_ofW HT_.out HW_.out (by kernel_rfl)) (fun _ _ _ h => h) (Or.inl ⟨by rfl, ?_⟩) hHeld ?_ ?_
                                rotate_left
                                · rintro w' ⟨s0, s1, s2, s3, s4, s5, s6⟩
                                  go_simp
                                  with_reducible rfl
                                rotate_left
                                · simp only [Act.put, List.setIfInBounds_toArray, List.set_cons_zero, List.set_cons_succ, i64_w, i32_w]
                                  rfl
                                refine pure_ (i := 4) (N := some 76) (v := ?_) (a' := ?_) #[true, true, true, true, true, false, false, false] rfl rfl (any_of HT_.out (by kernel_rfl)) (fun _ _ _ h => h) (Or.inl ⟨by rfl, ?_⟩) ?_ ?_
                                rotate_left
                                · intro w'
                                  go_simp
                                  with_reducible rfl
                                rotate_left
                                · simp only [Act.put, List.setIfInBounds_toArray, List.set_cons_zero, List.set_cons_succ, i64_w, i32_w]
                                  rfl
                                refine take_ (i := 5) (N := some 77) (v := ?_) (a' := ?_) #[true, true, true, true, true, true, false, false] rfl rfl (take_ofW HT_.out HW_.out (by kernel_rfl)) (fun _ _ _ h => h) (Or.inl ⟨by rfl, ?_⟩) hHeld ?_ ?_
                                rotate_left
                                · rintro w' ⟨s0, s1, s2, s3, s4, s5, s6⟩
                                  go_simp
                                  with_reducible rfl
                                rotate_left
                                · simp only [Act.put, List.setIfInBounds_toArray, List.set_cons_zero, List.set_cons_succ, i64_w, i32_w]
                                  rfl
                                refine one_ (i := 6) (N := some 78) #[true, true, true, true, true, true, true, false] rfl rfl (one_of HT_.out (by kernel_rfl)) (by decide) (fun K hK => ?_)
                                refine goes_ Try.func11 (by kernel_rfl) rfl #[.agg #[.slice A1_0 l1_0.length c1_0, .slice A1_1 l1_1.length c1_1], .int .i64 (rd t308 x12_2)] (by rfl) rfl rfl (by (try simp only [List.map_toArray, List.map_cons, List.map_nil]); first | done | rfl | (simp only [List.length_drop, List.length_take]; rfl)) ?_
                                with_reducible refine (term_Below.calls kj39 _ _ l1_0 _ _ l1_1 (rd t308 x12_2) t323 _ ?side1 ?side2 ?side3 ?side4 A52.out).mono ?_
                                (case side1 => repeat (first | exact (Kd.C_below HR1_0.out HB.out) | (with_reducible refine Kd.C_alloc ?_ _) | (with_reducible refine Kd.C_drewN ?_ _) | (with_reducible refine Kd.C_drew ?_)))
                                (case side2 => exact HC1_0.out)
                                (case side3 => repeat (first | exact (Kd.C_below HR1_1.out HB.out) | (with_reducible refine Kd.C_alloc ?_ _) | (with_reducible refine Kd.C_drewN ?_ _) | (with_reducible refine Kd.C_drew ?_)))
                                (case side4 => exact HC1_1.out)
                                rintro e w54 ⟨v324, rfl, ho0, hb⟩
                                have HS6_ := (hb.cell (World.block_lt_of_cell? _ _ (hHeld.2.2.2.2.2.2))).trans (hHeld.2.2.2.2.2.2)
                                refine ⟨_, rfl, ?_⟩
                                have n0_ := Aside0.mk (Kd.R_elder' (by (with_reducible repeat (first | apply Kd.R_alloc | apply Kd.R_drewN | apply Kd.R_drew)); exact HO_10.out) (Kd.R_base ho0) hb)
                                have n1_ := Aside0.mk (Kd.R_below (by (with_reducible repeat (first | apply Kd.R_alloc | apply Kd.R_drewN | apply Kd.R_drew)); exact HO_11.out) hb)
                                have n2_ := Aside0.mk (Kd.R_elder' (by (with_reducible repeat (first | apply Kd.R_alloc | apply Kd.R_drewN | apply Kd.R_drew)); exact HO_313003.out) (Kd.R_base ho0) hb)
                                have n3_ := Aside0.mk (Kd.R_lower (Kd.R_new' (Kd.R_new' ho0 (Kd.R_lt (by (with_reducible repeat (first | apply Kd.R_alloc | apply Kd.R_drewN | apply Kd.R_drew)); exact HO_10.out))) (Kd.R_lt (by (with_reducible repeat (first | apply Kd.R_alloc | apply Kd.R_drewN | apply Kd.R_drew)); exact HO_313003.out))) (below_size (by repeat (first | (with_reducible first | exact HB.out | apply below_alloc | apply pw_below_drewN | apply below_drew1 | refine below_set ?_ GE302.out | refine below_set ?_ GE312.out) | exact HB.out))))
                                have n4_ := Aside0.mk (blk_below (g := gb302) (o := .cells #[.slice A1_0 l1_0.length c1_0, .slice A1_1 l1_1.length c1_1] 26 (0, 0)) (by (with_reducible repeat (first | refine blk_drewN ?_ _ | refine blk_drew ?_ | refine blk_alloc ?_ _)); exact BK302.out) hb)
                                have n5_ := Aside0.mk (blk_below (g := gb312) (o := .cells #[.int .i64 t305, .int .i64 t306, .int .i64 t307, .slice (some ad322) t308.length co31] 28 (0, 0)) (by (with_reducible repeat (first | refine blk_drewN ?_ _ | refine blk_drew ?_ | refine blk_alloc ?_ _)); exact BK312.out) hb)
                                have n6_ := Aside0.mk (below_step (by repeat (first | (with_reducible first | exact HB.out | apply below_alloc | apply pw_below_drewN | apply below_drew1 | refine below_set ?_ GE302.out | refine below_set ?_ GE312.out) | exact HB.out)) hb)
                                clear HO_10
                                clear HO_11
                                clear HO_313003
                                clear BK302
                                clear BK312
                                clear HB
                                have HO_10 := n0_
                                have HO_11 := n1_
                                have HO_313003 := n2_
                                have HO325 := n3_
                                have BK302 := n4_
                                have BK312 := n5_
                                have HB := n6_
                                clear n0_ n1_ n2_ n3_ n4_ n5_ n6_
                                (try clear hb)
                                (try clear hb2)
                                (try clear hk)
                                (try clear hi)
                                (try clear ho0)
                                refine hK.out _ _ ⟨(blk_cell BK302.out 0).trans rfl, (blk_cell BK302.out 1).trans rfl, (blk_cell BK312.out 0).trans rfl, (blk_cell BK312.out 1).trans rfl, (blk_cell BK312.out 2).trans rfl, (blk_cell BK312.out 3).trans rfl, HS6_⟩ (fun hHeld => ?_)
                                clear hK K
                                refine norm_ (a' := ?_) ?_ ?_
                                rotate_left
                                · show Act.put _ (some 78) _ = _
                                  simp only [Act.put, List.setIfInBounds_toArray, List.set_cons_zero, List.set_cons_succ, i64_w, i32_w]
                                  rfl
                                refine pure_ (i := 7) (N := some 13) (v := ?_) (a' := ?_) #[true, true, true, true, true, true, true, true] rfl rfl (any_of HT_.out (by kernel_rfl)) (fun _ _ _ h => h) (Or.inl ⟨by rfl, ?_⟩) ?_ ?_
                                rotate_left
                                · intro w'
                                  go_simp
                                  with_reducible rfl
                                rotate_left
                                · simp only [Act.put, List.setIfInBounds_toArray, List.set_cons_zero, List.set_cons_succ, i64_w, i32_w]
                                  rfl
                                refine done_ (done_of HT_.out (by kernel_rfl)) ?_
                                try go_wp2
                                go_loopg [14] kj39 (fun kq v14 w' => ∃ (x11_4 : List Bool) (x14_4 : Int), v14 = .int .i64 x14_4 ∧ Aside0 (tammylaw03_TermBelow.l1 kq a2 t303 t313 x11_4 x12_2 t323 x14_4 l1_0 l1_1 t305 t306 t307 t308 = some r) ∧ Aside0 (kq ≤ kj39) ∧ Aside0 (Kd.R (Kd.int .i64) 3 w' w.heap.size (fun k_ => some k_ ≠ (v324 : Value).ownBlock ∧ some k_ ≠ ((.slice (some ad322) t308.length co31) : Value).ownBlock) v314 t313) ∧ Aside0 (Kd.R Kd.bool 4 w' w.heap.size (fun _ => True) (.slice (some ⟨go25, 0, none⟩) x11_2.length co25) x11_4) ∧ Aside0 (Kd.R (Kd.int .i64) 3 w' w.heap.size (fun k_ => some k_ ≠ (v314 : Value).ownBlock ∧ some k_ ≠ ((.slice (some ad322) t308.length co31) : Value).ownBlock) v324 t323) ∧ Aside0 (Kd.R (Kd.int .i64) 3 w' w.heap.size (fun k_ => some k_ ≠ (v314 : Value).ownBlock ∧ some k_ ≠ (v324 : Value).ownBlock) (.slice (some ad322) t308.length co31) t308) ∧ Aside0 (w'.heap[gb302]? = some (.cells #[(.slice A1_0 l1_0.length c1_0), (.slice A1_1 l1_1.length c1_1)] 26 (0, 0))) ∧ Aside0 (w'.heap[gb312]? = some (.cells #[.int .i64 t305, .int .i64 t306, .int .i64 t307, (.slice (some ad322) t308.length co31)] 28 (0, 0))) ∧ Aside0 (Below w.heap.size w w'))
                                case atStart => exact ⟨(x11_2), (0), (by first | rfl | (simp; done) | (simp [*]; done)), H', ⟨Nat.le_refl _⟩, ⟨by (try simp only [hl11_2]); (with_reducible repeat (first | apply Kd.R_alloc | apply Kd.R_drewN | apply Kd.R_drew)); exact Kd.R_mono HO_10.out (fun _ hk => ⟨hk.2, hk.1⟩)⟩, ⟨by (try simp only [hl11_2]); (with_reducible repeat (first | apply Kd.R_alloc | apply Kd.R_drewN | apply Kd.R_drew)); exact HO_11.out⟩, ⟨by (try simp only [hl11_2]); (with_reducible repeat (first | apply Kd.R_alloc | apply Kd.R_drewN | apply Kd.R_drew)); exact Kd.R_mono HO325.out (fun _ hk => ⟨hk.1.2, hk.2⟩)⟩, ⟨by (try simp only [hl11_2]); (with_reducible repeat (first | apply Kd.R_alloc | apply Kd.R_drewN | apply Kd.R_drew)); exact HO_313003.out⟩, ⟨by (try simp only [hl11_2]); (with_reducible repeat (first | refine blk_drewN ?_ _ | refine blk_drew ?_ | refine blk_alloc ?_ _)); exact BK302.out⟩, ⟨by (try simp only [hl11_2]); (with_reducible repeat (first | refine blk_drewN ?_ _ | refine blk_drew ?_ | refine blk_alloc ?_ _)); exact BK312.out⟩, ⟨by repeat (first | (with_reducible first | exact HB.out | apply below_alloc | apply pw_below_drewN | apply below_drew1 | refine below_set ?_ GE302.out | refine below_set ?_ GE312.out) | exact HB.out)⟩⟩
                                case round =>
                                  clear H'
                                  try clear c1
                                  try clear c2
                                  try clear p2
                                  try clear q2
                                  try clear hx2
                                  try clear c3
                                  try clear p3
                                  try clear q3
                                  try clear hx3
                                  try clear c4
                                  try clear c5
                                  try clear c6
                                  try clear c9
                                  try clear c10
                                  try clear c10b0
                                  try clear c11
                                  try clear c13
                                  try clear c18
                                  try clear c21
                                  try clear c21b0
                                  try clear c21b1
                                  try clear c22
                                  try clear c22b0
                                  try clear c22b1
                                  try clear c23
                                  try clear c23b0
                                  try clear c24
                                  try clear c24b0
                                  try clear p25
                                  try clear q25
                                  try clear hx25
                                  try clear hf25
                                  try clear c29
                                  try clear p32
                                  try clear q32
                                  try clear hx32
                                  try clear c39
                                  try clear c39b0
                                  try clear c41
                                  try clear c43
                                  try clear c43b0
                                  try clear c44
                                  try clear c44b0
                                  try clear c45
                                  try clear c47
                                  try clear c49
                                  try clear c50
                                  try clear c50b0
                                  try clear c51
                                  try clear c51b0
                                  try clear hcz11_0
                                  try clear hcz11_1
                                  try clear hcz13_0
                                  try clear hcz13_1
                                  try clear hcz15_0
                                  try clear hcz15_1
                                  try clear hcz16_0
                                  try clear hcz16_1
                                  try clear hcz26_0
                                  try clear hcz26_1
                                  try clear hcz30_0
                                  try clear hcz30_1
                                  try clear hcz30_2
                                  try clear hcz30_3
                                  try clear hcz32_0
                                  try clear hcz32_1
                                  try clear hcz34_0
                                  try clear hcz34_1
                                  try clear hcz42_0
                                  try clear hcz42_1
                                  try clear hcz42_2
                                  try clear hcz42_3
                                  try clear hcz46_0
                                  try clear hcz46_1
                                  try clear hcz46_2
                                  try clear hcz46_3
                                  try clear hcz48_0
                                  try clear hcz48_1
                                  try clear hcz48_2
                                  try clear hcz48_3
                                  try clear hfz11_0
                                  try clear hfz11_1
                                  try clear hfz13_0
                                  try clear hfz13_1
                                  try clear hfz15_0
                                  try clear hfz15_1
                                  try clear hfz16_0
                                  try clear hfz16_1
                                  try clear hfz26_0
                                  try clear hfz26_1
                                  try clear hfz30_0
                                  try clear hfz30_1
                                  try clear hfz30_2
                                  try clear hfz30_3
                                  try clear hfz32_0
                                  try clear hfz32_1
                                  try clear hfz34_0
                                  try clear hfz34_1
                                  try clear hfz42_0
                                  try clear hfz42_1
                                  try clear hfz42_2
                                  try clear hfz42_3
                                  try clear hfz46_0
                                  try clear hfz46_1
                                  try clear hfz46_2
                                  try clear hfz46_3
                                  try clear hfz48_0
                                  try clear hfz48_1
                                  try clear hfz48_2
                                  try clear hfz48_3
                                  try clear hx25_0
                                  try clear hx320_0
                                  try clear hx321_0
                                  try clear hx322_0
                                  try clear p2
                                  try clear p25
                                  try clear p3
                                  try clear p32
                                  try clear p320
                                  try clear p321
                                  try clear p322
                                  try clear q2
                                  try clear q25
                                  try clear q3
                                  try clear q32
                                  try clear q320
                                  try clear q321
                                  try clear q322
                                  obtain ⟨x11_4, x14_4, rfl, HA, HK4, HO_10, HO_11, HO_13, HO_313003, BK302, BK312, HB⟩ := hrel
                                  have hl11_4 := (Kd.R_reads' HO_11.out).1
                                  rw [hl11_4] at HO_11
                                  (try simp only [hl11_4])
                                  (try simp only [hl11_4] at BK302)
                                  (try simp only [hl11_4] at BK312)
                                  (try simp only [hl11_4] at HO_10)
                                  (try simp only [hl11_4] at HO_13)
                                  (try simp only [hl11_4] at HO_313003)
                                  cases gk with
                                  | zero => exact absurd HA.out (by simp [tammylaw03_TermBelow.l1])
                                  | succ k4 =>
                                    have H := HA.out
                                    clear HA
                                    simp only [tammylaw03_TermBelow.l1] at H
                                    by_cases c55 : x14_4 < (t323.length : Int)
                                    · rw [if_pos c55] at H
                                      have c55b0 : decide (x14_4 < (t323.length : Int)) = true := decide_eq_true c55
                                      clear c55
                                      by_cases c56 : 0 ≤ x14_4
                                      · rw [if_pos c56] at H
                                        have c56b0 : decide (0 ≤ x14_4) = true := decide_eq_true c56
                                        clear c56
                                        by_cases c57 : (rd t323 x14_4) < 0
                                        · rw [if_pos c57] at H
                                          have c57b0 : decide ((rd t323 x14_4) < 0) = true := decide_eq_true c57
                                          clear c57
                                          obtain rfl := Option.some.inj H
                                          obtain ⟨Ao58, co58, eo58⟩ := Kd.R_slice HO_13.out
                                          subst eo58
                                          have p326 : 0 ≤ (x14_4 : Int) := of_decide_eq_true (by first | (with_reducible assumption) | assumption)
                                          have q326 : x14_4 < (t323.length : Int) := of_decide_eq_true (by first | (with_reducible assumption) | assumption)
                                          obtain ⟨ad326, e326, hx326_0⟩ := Kd.at_int (Kd.R_reads' HO_13.out).2.2 x14_4 p326 q326
                                          cases e326
                                          replace p326 := eq_true p326
                                          replace q326 := eq_true q326
                                          go_wp2
                                          go_ret
                                          exact ⟨by first | rfl | (simp [errW_none, errW_some] <;> rfl) | (simp [*, errW_none, errW_some] <;> rfl), by repeat (first | (with_reducible first | exact HB.out | apply below_alloc | apply pw_below_drewN | apply below_drew1 | refine below_set ?_ GE302.out | refine below_set ?_ GE312.out) | exact HB.out)⟩
                                        · rw [if_neg c57] at H
                                          have c57b0 : decide ((rd t323 x14_4) < 0) = false := decide_eq_false c57
                                          clear c57
                                          by_cases c59 : (rd t323 x14_4) ≥ a2
                                          · rw [if_pos c59] at H
                                            have c59b0 : decide (a2 ≤ (rd t323 x14_4)) = true := decide_eq_true c59
                                            clear c59
                                            obtain rfl := Option.some.inj H
                                            obtain ⟨Ao60, co60, eo60⟩ := Kd.R_slice HO_13.out
                                            subst eo60
                                            have p326 : 0 ≤ (x14_4 : Int) := of_decide_eq_true (by first | (with_reducible assumption) | assumption)
                                            have q326 : x14_4 < (t323.length : Int) := of_decide_eq_true (by first | (with_reducible assumption) | assumption)
                                            obtain ⟨ad326, e326, hx326_0⟩ := Kd.at_int (Kd.R_reads' HO_13.out).2.2 x14_4 p326 q326
                                            cases e326
                                            replace p326 := eq_true p326
                                            replace q326 := eq_true q326
                                            have p327 : 0 ≤ (x14_4 : Int) := of_decide_eq_true (by first | (with_reducible assumption) | assumption)
                                            have q327 : x14_4 < (t323.length : Int) := of_decide_eq_true (by first | (with_reducible assumption) | assumption)
                                            obtain ⟨ad327, e327, hx327_0⟩ := Kd.at_int (Kd.R_reads' HO_13.out).2.2 x14_4 p327 q327
                                            obtain rfl : ad326 = ad327 := (by injection e327)
                                            replace p327 := eq_true p327
                                            replace q327 := eq_true q327
                                            go_wp2
                                            go_ret
                                            exact ⟨by first | rfl | (simp [errW_none, errW_some] <;> rfl) | (simp [*, errW_none, errW_some] <;> rfl), by repeat (first | (with_reducible first | exact HB.out | apply below_alloc | apply pw_below_drewN | apply below_drew1 | refine below_set ?_ GE302.out | refine below_set ?_ GE312.out) | exact HB.out)⟩
                                          · rw [if_neg c59] at H
                                            have c59b0 : decide (a2 ≤ (rd t323 x14_4)) = false := decide_eq_false c59
                                            clear c59
                                            by_cases c61 : 0 ≤ (rd t323 x14_4)
                                            · rw [if_pos c61] at H
                                              have c61b0 : decide (0 ≤ (rd t323 x14_4)) = true := decide_eq_true c61
                                              clear c61
                                              by_cases c62 : (rd t323 x14_4) < (x11_4.length : Int)
                                              · rw [if_pos c62] at H
                                                have c62b0 : decide ((rd t323 x14_4) < (x11_4.length : Int)) = true := decide_eq_true c62
                                                clear c62
                                                obtain ⟨y329, hy329⟩ : ∃ y_ : List Bool, y_ = (x11_4.set ((rd t323 x14_4) : Int).toNat true) := ⟨_, rfl⟩
                                                replace H : (tammylaw03_TermBelow.l1 k4 a2 t303 t313 y329 x12_2 t323 (wrap64 (x14_4 + 1)) l1_0 l1_1 t305 t306 t307 t308) = some r := by first | (rw [hy329]; with_reducible exact H) | (have H2_ := (Option.bind_some _ _).symm.trans H; rw [hy329]; with_reducible exact H2_) | (have H2_ := (Option.bind_some _ _).symm.trans H; with_reducible exact H2_) | with_reducible exact H | (rw [hy329]; exact H) | exact H
                                                have Ny329 := Aside0.mk hy329
                                                clear hy329
                                                have H' := Aside0.mk H
                                                clear H
                                                obtain ⟨Ao64, co64, eo64⟩ := Kd.R_slice HO_13.out
                                                subst eo64
                                                have p326 : 0 ≤ (x14_4 : Int) := of_decide_eq_true (by first | (with_reducible assumption) | assumption)
                                                have q326 : x14_4 < (t323.length : Int) := of_decide_eq_true (by first | (with_reducible assumption) | assumption)
                                                obtain ⟨ad326, e326, hx326_0⟩ := Kd.at_int (Kd.R_reads' HO_13.out).2.2 x14_4 p326 q326
                                                cases e326
                                                replace p326 := eq_true p326
                                                replace q326 := eq_true q326
                                                have p327 : 0 ≤ (x14_4 : Int) := of_decide_eq_true (by first | (with_reducible assumption) | assumption)
                                                have q327 : x14_4 < (t323.length : Int) := of_decide_eq_true (by first | (with_reducible assumption) | assumption)
                                                obtain ⟨ad327, e327, hx327_0⟩ := Kd.at_int (Kd.R_reads' HO_13.out).2.2 x14_4 p327 q327
                                                obtain rfl : ad326 = ad327 := (by injection e327)
                                                replace p327 := eq_true p327
                                                replace q327 := eq_true q327
                                                have p328 : 0 ≤ (x14_4 : Int) := of_decide_eq_true (by first | (with_reducible assumption) | assumption)
                                                have q328 : x14_4 < (t323.length : Int) := of_decide_eq_true (by first | (with_reducible assumption) | assumption)
                                                obtain ⟨ad328, e328, hx328_0⟩ := Kd.at_int (Kd.R_reads' HO_13.out).2.2 x14_4 p328 q328
                                                obtain rfl : ad326 = ad328 := (by injection e328)
                                                replace p328 := eq_true p328
                                                replace q328 := eq_true q328
                                                have p63 : 0 ≤ ((rd t323 x14_4) : Int) := of_decide_eq_true (by first | (with_reducible assumption) | assumption)
                                                have q63 : ((rd t323 x14_4) : Int) < ((x11_4.length : Int) : Int) := of_decide_eq_true (by first | (with_reducible assumption) | assumption)
                                                obtain ⟨hx63_0, hf63_0⟩ := Kd.R_celln false HO_11.out ((rd t323 x14_4) : Int) p63 q63
                                                replace p63 := eq_true p63
                                                replace q63 := eq_true q63
                                                have HP65 := Kd.R_putg HO_11.out ((rd t323 x14_4) : Int) true
                                                go_wp2_with (first | ((with_reducible refine gate_store (t := 4) (p := 103) rfl ?_); refine store_event (t := 4) (p := 103) (v := ?vo_w66) (w1 := (wr.setCell ⟨go25, ((rd t323 x14_4) : Int).toNat, none⟩ (.bool true))) ?hg ?ho ?hn ?hr ?_; (case ho => rfl); (case hg => rfl); (case hn => rfl); (case hr => first | (go_simp; done) | (go_simp; rfl)); intro w66 hw; have hg : wr.grownBy w66 (some go25) := (by rw [hw]; exact HP65.2); have hp_ : Kd.R Kd.bool 4 w66 w.heap.size (fun _ => True) (.slice (some ⟨go25, 0, none⟩) x11_4.length co25) y329 := (by rw [hw, Ny329.out]; exact HP65.1); clear HP65; have n0_ := Aside0.mk (Kd.R_over' (v := (.slice (some ⟨go25, 0, none⟩) x11_4.length co25)) (by (with_reducible repeat (first | apply Kd.R_alloc | apply Kd.R_drewN | apply Kd.R_drew)); exact HO_10.out) (Kd.R_typed HO_11.out) (by decide) hg); have n1_ := Aside0.mk (hp_); have n2_ := Aside0.mk (Kd.R_over' (v := (.slice (some ⟨go25, 0, none⟩) x11_4.length co25)) (by (with_reducible repeat (first | apply Kd.R_alloc | apply Kd.R_drewN | apply Kd.R_drew)); exact HO_13.out) (Kd.R_typed HO_11.out) (by decide) hg); have n3_ := Aside0.mk (Kd.R_over' (v := (.slice (some ⟨go25, 0, none⟩) x11_4.length co25)) (by (with_reducible repeat (first | apply Kd.R_alloc | apply Kd.R_drewN | apply Kd.R_drew)); exact HO_313003.out) (Kd.R_typed HO_11.out) (by decide) hg); have n4_ := Aside0.mk (blk_grown (g := gb302) (o := .cells #[.slice A1_0 l1_0.length c1_0, .slice A1_1 l1_1.length c1_1] 26 (0, 0)) (by (with_reducible repeat (first | refine blk_drewN ?_ _ | refine blk_drew ?_ | refine blk_alloc ?_ _)); exact BK302.out) hg (Kd.R_ne HO_11.out BK302.out (by decide))); have n5_ := Aside0.mk (blk_grown (g := gb312) (o := .cells #[.int .i64 t305, .int .i64 t306, .int .i64 t307, .slice (some ad322) t308.length co31] 28 (0, 0)) (by (with_reducible repeat (first | refine blk_drewN ?_ _ | refine blk_drew ?_ | refine blk_alloc ?_ _)); exact BK312.out) hg (Kd.R_ne HO_11.out BK312.out (by decide))); have n6_ := Aside0.mk ((by rw [hw]; exact below_set (HB.out) GB25.out : Below w.heap.size w w66)); clear HO_10; clear HO_11; clear HO_13; clear HO_313003; clear BK302; clear BK312; clear HB; have HO_10 := n0_; have HO_11 := n1_; have HO_13 := n2_; have HO_313003 := n3_; have BK302 := n4_; have BK312 := n5_; have HB := n6_; clear n0_ n1_ n2_ n3_ n4_ n5_ n6_; clear hg hw hp_))
                                                (try simp only [← hl11_4])
                                                go_roundg k4
                                                case measure => have := HJ4.out; have := HK2.out; have := HJ39.out; have := HK4.out; omega
                                                case rel => exact ⟨(y329), (wrap64 (x14_4 + 1)), (by first | rfl | (simp; done) | (simp [*]; done)), H', ⟨by have := HJ4.out; have := HK2.out; have := HJ39.out; have := HK4.out; omega⟩, ⟨by (try simp only [hl11_2]); (try simp only [hl11_4]); (with_reducible repeat (first | apply Kd.R_alloc | apply Kd.R_drewN | apply Kd.R_drew)); exact HO_10.out⟩, ⟨by (try simp only [hl11_2]); (try simp only [hl11_4]); (with_reducible repeat (first | apply Kd.R_alloc | apply Kd.R_drewN | apply Kd.R_drew)); exact HO_11.out⟩, ⟨by (try simp only [hl11_2]); (try simp only [hl11_4]); (with_reducible repeat (first | apply Kd.R_alloc | apply Kd.R_drewN | apply Kd.R_drew)); exact HO_13.out⟩, ⟨by (try simp only [hl11_2]); (try simp only [hl11_4]); (with_reducible repeat (first | apply Kd.R_alloc | apply Kd.R_drewN | apply Kd.R_drew)); exact HO_313003.out⟩, ⟨by (try simp only [hl11_2]); (try simp only [hl11_4]); (with_reducible repeat (first | refine blk_drewN ?_ _ | refine blk_drew ?_ | refine blk_alloc ?_ _)); exact BK302.out⟩, ⟨by (try simp only [hl11_2]); (try simp only [hl11_4]); (with_reducible repeat (first | refine blk_drewN ?_ _ | refine blk_drew ?_ | refine blk_alloc ?_ _)); exact BK312.out⟩, ⟨by repeat (first | (with_reducible first | exact HB.out | apply below_alloc | apply pw_below_drewN | apply below_drew1 | refine below_set ?_ GE302.out | refine below_set ?_ GE312.out) | exact HB.out)⟩⟩
                                              · rw [if_neg c62] at H
                                                exact absurd H (by simp)
                                            · rw [if_neg c61] at H
                                              exact absurd H (by simp)
                                      · rw [if_neg c56] at H
                                        exact absurd H (by simp)
                                    · rw [if_neg c55] at H
                                      have c55b0 : decide (x14_4 < (t323.length : Int)) = false := decide_eq_false c55
                                      clear c55
                                      have H' := Aside0.mk H
                                      clear H
                                      obtain ⟨Ao67, co67, eo67⟩ := Kd.R_slice HO_13.out
                                      subst eo67
                                      go_wp2
                                      (try simp only [← hl11_2, ← hl11_4])
                                      go_roundg k4
                                      case measure => have := HJ4.out; have := HK2.out; have := HJ39.out; have := HK4.out; omega
                                      case rel => exact ⟨(x11_4), (wrap64 (x12_2 + 1)), (by first | rfl | (simp; done) | (simp [*]; done)), H', ⟨by have := HJ4.out; have := HK2.out; have := HJ39.out; have := HK4.out; omega⟩, ⟨by (try simp only [hl11_2]); (try simp only [hl11_4]); (with_reducible repeat (first | apply Kd.R_alloc | apply Kd.R_drewN | apply Kd.R_drew)); exact Kd.R_mono HO_10.out (fun _ hk => hk.2)⟩, ⟨by (try simp only [hl11_2]); (try simp only [hl11_4]); (with_reducible repeat (first | apply Kd.R_alloc | apply Kd.R_drewN | apply Kd.R_drew)); exact HO_11.out⟩, ⟨by (try simp only [hl11_2]); (try simp only [hl11_4]); (with_reducible repeat (first | apply Kd.R_alloc | apply Kd.R_drewN | apply Kd.R_drew)); exact Kd.R_mono HO_313003.out (fun _ hk => hk.1)⟩, ⟨by (try simp only [hl11_2]); (try simp only [hl11_4]); (with_reducible repeat (first | refine blk_drewN ?_ _ | refine blk_drew ?_ | refine blk_alloc ?_ _)); exact BK302.out⟩, ⟨by (try simp only [hl11_2]); (try simp only [hl11_4]); (with_reducible repeat (first | refine blk_drewN ?_ _ | refine blk_drew ?_ | refine blk_alloc ?_ _)); exact BK312.out⟩, ⟨by repeat (first | (with_reducible first | exact HB.out | apply below_alloc | apply pw_below_drewN | apply below_drew1 | refine below_set ?_ GE302.out | refine below_set ?_ GE312.out) | exact HB.out)⟩⟩
                              · rw [if_neg c51] at H
                                exact absurd H (by simp)
                            · rw [if_neg c50] at H
                              exact absurd H (by simp)
                    · rw [if_neg c39] at H
                      have c39b0 : decide (x12_2 < (t308.length : Int)) = false := decide_eq_false c39
                      clear c39
                      have H' := Aside0.mk H
                      clear H
                      have hnb68 := NB312_302.out
                      have hnc68 := NB302_312.out
                      have hcz69_0 : wr.cell? ⟨gb312, 0, none⟩ = some (.int .i64 t305) := (blk_cell BK312.out 0).trans rfl
                      have hcz69_1 : wr.cell? ⟨gb312, 1, none⟩ = some (.int .i64 t306) := (blk_cell BK312.out 1).trans rfl
                      have hcz69_2 : wr.cell? ⟨gb312, 2, none⟩ = some (.int .i64 t307) := (blk_cell BK312.out 2).trans rfl
                      have hcz69_3 : wr.cell? ⟨gb312, 3, none⟩ = some (.slice Ao31 t308.length co31) := (blk_cell BK312.out 3).trans rfl
                      have hfz69_0 := blk_frozen BK312.out 0
                      have hfz69_1 := blk_frozen BK312.out 1
                      have hfz69_2 := blk_frozen BK312.out 2
                      have hfz69_3 := blk_frozen BK312.out 3
                      go_wp2
                      go_loopg [15, 16] k2 (fun kq v15 v16 w' => ∃ (x15_3 : Int) (x16_3 : Int), v15 = .int .i64 x15_3 ∧ v16 = .int .i64 x16_3 ∧ Aside0 (tammylaw03_TermBelow.l2 kq t303 t313 x11_2 x15_3 x16_3 = some r) ∧ Aside0 (kq ≤ k2) ∧ Aside0 (Kd.R (Kd.int .i64) 3 w' w.heap.size (fun k_ => some k_ ≠ ((.slice Ao31 t308.length co31) : Value).ownBlock) v314 t313) ∧ Aside0 (Kd.R Kd.bool 4 w' w.heap.size (fun _ => True) (.slice (some ⟨go25, 0, none⟩) x11_2.length co25) x11_2) ∧ Aside0 (Kd.R (Kd.int .i64) 3 w' w.heap.size (fun k_ => some k_ ≠ (v314 : Value).ownBlock) (.slice Ao31 t308.length co31) t308) ∧ Aside0 (w'.heap[gb302]? = some (.cells #[(.slice A1_0 l1_0.length c1_0), (.slice A1_1 l1_1.length c1_1)] 26 (0, 0))) ∧ Aside0 (w'.heap[gb312]? = some (.cells #[.int .i64 t305, .int .i64 t306, .int .i64 t307, (.slice Ao31 t308.length co31)] 28 (0, 0))) ∧ Aside0 (Below w.heap.size w w'))
                      case atStart => exact ⟨(0), (0), (by first | rfl | (simp; done) | (simp [*]; done)), (by first | rfl | (simp; done) | (simp [*]; done)), H', ⟨Nat.le_refl _⟩, ⟨by (try simp only [hl11_2]); (with_reducible repeat (first | apply Kd.R_alloc | apply Kd.R_drewN | apply Kd.R_drew)); exact HO_10.out⟩, ⟨by (try simp only [hl11_2]); (with_reducible repeat (first | apply Kd.R_alloc | apply Kd.R_drewN | apply Kd.R_drew)); exact HO_11.out⟩, ⟨by (try simp only [hl11_2]); (with_reducible repeat (first | apply Kd.R_alloc | apply Kd.R_drewN | apply Kd.R_drew)); exact HO_313003.out⟩, ⟨by (try simp only [hl11_2]); (with_reducible repeat (first | refine blk_drewN ?_ _ | refine blk_drew ?_ | refine blk_alloc ?_ _)); exact BK302.out⟩, ⟨by (try simp only [hl11_2]); (with_reducible repeat (first | refine blk_drewN ?_ _ | refine blk_drew ?_ | refine blk_alloc ?_ _)); exact BK312.out⟩, ⟨by repeat (first | (with_reducible first | exact HB.out | apply below_alloc | apply pw_below_drewN | apply below_drew1 | refine below_set ?_ GE302.out | refine below_set ?_ GE312.out) | exact HB.out)⟩⟩
                      case round =>
                        clear H'
                        try clear c1
                        try clear c2
                        try clear p2
                        try clear q2
                        try clear hx2
                        try clear c3
                        try clear p3
                        try clear q3
                        try clear hx3
                        try clear c4
                        try clear c5
                        try clear c6
                        try clear p6
                        try clear q6
                        try clear hx6
                        try clear hf6
                        try clear c9
                        try clear c10
                        try clear c10b0
                        try clear c11
                        try clear c13
                        try clear c18
                        try clear c21
                        try clear c21b0
                        try clear c21b1
                        try clear c22
                        try clear c22b0
                        try clear c22b1
                        try clear c23
                        try clear c23b0
                        try clear c24
                        try clear c24b0
                        try clear p25
                        try clear q25
                        try clear hx25
                        try clear hf25
                        try clear c29
                        try clear p32
                        try clear q32
                        try clear hx32
                        try clear c39
                        try clear c39b0
                        try clear c41
                        try clear c43
                        try clear c43b0
                        try clear c44
                        try clear c44b0
                        try clear c45
                        try clear c47
                        try clear c49
                        try clear c50
                        try clear c50b0
                        try clear c51
                        try clear c51b0
                        try clear c55
                        try clear c55b0
                        try clear c56
                        try clear c56b0
                        try clear c57
                        try clear c57b0
                        try clear c59
                        try clear c59b0
                        try clear c61
                        try clear c61b0
                        try clear c62
                        try clear c62b0
                        try clear p63
                        try clear q63
                        try clear hx63
                        try clear hf63
                        try clear p64
                        try clear c68
                        try clear hcz11_0
                        try clear hcz11_1
                        try clear hcz13_0
                        try clear hcz13_1
                        try clear hcz15_0
                        try clear hcz15_1
                        try clear hcz16_0
                        try clear hcz16_1
                        try clear hcz26_0
                        try clear hcz26_1
                        try clear hcz30_0
                        try clear hcz30_1
                        try clear hcz30_2
                        try clear hcz30_3
                        try clear hcz32_0
                        try clear hcz32_1
                        try clear hcz34_0
                        try clear hcz34_1
                        try clear hcz42_0
                        try clear hcz42_1
                        try clear hcz42_2
                        try clear hcz42_3
                        try clear hcz46_0
                        try clear hcz46_1
                        try clear hcz46_2
                        try clear hcz46_3
                        try clear hcz48_0
                        try clear hcz48_1
                        try clear hcz48_2
                        try clear hcz48_3
                        try clear hcz69_0
                        try clear hcz69_1
                        try clear hcz69_2
                        try clear hcz69_3
                        try clear hfz11_0
                        try clear hfz11_1
                        try clear hfz13_0
                        try clear hfz13_1
                        try clear hfz15_0
                        try clear hfz15_1
                        try clear hfz16_0
                        try clear hfz16_1
                        try clear hfz26_0
                        try clear hfz26_1
                        try clear hfz30_0
                        try clear hfz30_1
                        try clear hfz30_2
                        try clear hfz30_3
                        try clear hfz32_0
                        try clear hfz32_1
                        try clear hfz34_0
                        try clear hfz34_1
                        try clear hfz42_0
                        try clear hfz42_1
                        try clear hfz42_2
                        try clear hfz42_3
                        try clear hfz46_0
                        try clear hfz46_1
                        try clear hfz46_2
                        try clear hfz46_3
                        try clear hfz48_0
                        try clear hfz48_1
                        try clear hfz48_2
                        try clear hfz48_3
                        try clear hfz69_0
                        try clear hfz69_1
                        try clear hfz69_2
                        try clear hfz69_3
                        try clear hx25_0
                        try clear hx320_0
                        try clear hx321_0
                        try clear hx322_0
                        try clear hx326_0
                        try clear hx327_0
                        try clear hx328_0
                        try clear hx63_0
                        try clear p2
                        try clear p25
                        try clear p3
                        try clear p32
                        try clear p320
                        try clear p321
                        try clear p322
                        try clear p326
                        try clear p327
                        try clear p328
                        try clear p63
                        try clear q2
                        try clear q25
                        try clear q3
                        try clear q32
                        try clear q320
                        try clear q321
                        try clear q322
                        try clear q326
                        try clear q327
                        try clear q328
                        try clear q63
                        obtain ⟨x15_3, x16_3, rfl, rfl, HA, HK3, HO_10, HO_11, HO_313003, BK302, BK312, HB⟩ := hrel
                        cases gk with
                        | zero => exact absurd HA.out (by simp [tammylaw03_TermBelow.l2])
                        | succ k3 =>
                          have H := HA.out
                          clear HA
                          simp only [tammylaw03_TermBelow.l2] at H
                          by_cases c70 : x16_3 < (x11_2.length : Int)
                          · rw [if_pos c70] at H
                            have c70b0 : decide (x16_3 < (x11_2.length : Int)) = true := decide_eq_true c70
                            clear c70
                            by_cases c71 : 0 ≤ x16_3
                            · rw [if_pos c71] at H
                              have c71b0 : decide (0 ≤ x16_3) = true := decide_eq_true c71
                              clear c71
                              obtain ⟨bq72, hbq72⟩ : ∃ b_ : Bool, b_ = (rdOf false x11_2 x16_3) := ⟨_, rfl⟩
                              replace H : (if bq72 = true then (if x15_3 ≥ (t313.length : Int) then (some false) else (if 0 ≤ x15_3 then (if x15_3 < (t313.length : Int) then (if (rd t313 x15_3) = x16_3 then (tammylaw03_TermBelow.l2 k3 t303 t313 x11_2 (wrap64 (x15_3 + 1)) (wrap64 (x16_3 + 1))) else (some false)) else (none)) else (none))) else (tammylaw03_TermBelow.l2 k3 t303 t313 x11_2 x15_3 (wrap64 (x16_3 + 1)))) = some r := by rw [← hbq72] at H; exact H
                              have Nbq72 := Aside0.mk hbq72
                              clear hbq72
                              by_cases c73 : bq72 = true
                              · subst c73
                                have H1 : (if x15_3 ≥ (t313.length : Int) then (some false) else (if 0 ≤ x15_3 then (if x15_3 < (t313.length : Int) then (if (rd t313 x15_3) = x16_3 then (tammylaw03_TermBelow.l2 k3 t303 t313 x11_2 (wrap64 (x15_3 + 1)) (wrap64 (x16_3 + 1))) else (some false)) else (none)) else (none))) = some r := by rw [if_pos rfl] at H; exact H
                                clear H
                                have H := H1
                                clear H1
                                by_cases c74 : x15_3 ≥ (t313.length : Int)
                                · rw [if_pos c74] at H
                                  have c74b0 : decide ((t313.length : Int) ≤ x15_3) = true := decide_eq_true c74
                                  clear c74
                                  obtain rfl := Option.some.inj H
                                  have p330 : 0 ≤ (x16_3 : Int) := of_decide_eq_true (by first | (with_reducible assumption) | assumption)
                                  have q330 : x16_3 < (x11_2.length : Int) := of_decide_eq_true (by first | (with_reducible assumption) | assumption)
                                  obtain ⟨ad330, e330, hx330_0⟩ := Kd.at_bool (Kd.R_reads' HO_11.out).2.2 x16_3 p330 q330
                                  (try rw [← Nbq72.out] at hx330_0)
                                  obtain rfl : (⟨go25, 0, none⟩ : Addr) = ad330 := (by injection e330)
                                  (first | simp only [add_plain] at hx330_0 | simp only [add_at] at hx330_0 | simp only [Addr.add, Nat.zero_add] at hx330_0 | skip)
                                  replace p330 := eq_true p330
                                  replace q330 := eq_true q330
                                  obtain ⟨Ao75, co75, eo75⟩ := Kd.R_slice HO_10.out
                                  subst eo75
                                  go_wp2
                                  go_ret
                                  exact ⟨by first | rfl | (simp [errW_none, errW_some] <;> rfl) | (simp [*, errW_none, errW_some] <;> rfl), by repeat (first | (with_reducible first | exact HB.out | apply below_alloc | apply pw_below_drewN | apply below_drew1 | refine below_set ?_ GE302.out | refine below_set ?_ GE312.out) | exact HB.out)⟩
                                · rw [if_neg c74] at H
                                  have c74b0 : decide ((t313.length : Int) ≤ x15_3) = false := decide_eq_false c74
                                  clear c74
                                  by_cases c76 : 0 ≤ x15_3
                                  · rw [if_pos c76] at H
                                    have c76b0 : decide (0 ≤ x15_3) = true := decide_eq_true c76
                                    clear c76
                                    by_cases c77 : x15_3 < (t313.length : Int)
                                    · rw [if_pos c77] at H
                                      have c77b0 : decide (x15_3 < (t313.length : Int)) = true := decide_eq_true c77
                                      clear c77
                                      by_cases c78 : (rd t313 x15_3) = x16_3
                                      · rw [if_pos c78] at H
                                        have c78b0 : ((rd t313 x15_3) == x16_3) = true := beq_iff_eq.mpr c78
                                        have c78b1 : ((rd t313 x15_3) != x16_3) = false := bne_eq_false_iff_eq.mpr c78
                                        clear c78
                                        have H' := Aside0.mk H
                                        clear H
                                        have p330 : 0 ≤ (x16_3 : Int) := of_decide_eq_true (by first | (with_reducible assumption) | assumption)
                                        have q330 : x16_3 < (x11_2.length : Int) := of_decide_eq_true (by first | (with_reducible assumption) | assumption)
                                        obtain ⟨ad330, e330, hx330_0⟩ := Kd.at_bool (Kd.R_reads' HO_11.out).2.2 x16_3 p330 q330
                                        (try rw [← Nbq72.out] at hx330_0)
                                        obtain rfl : (⟨go25, 0, none⟩ : Addr) = ad330 := (by injection e330)
                                        (first | simp only [add_plain] at hx330_0 | simp only [add_at] at hx330_0 | simp only [Addr.add, Nat.zero_add] at hx330_0 | skip)
                                        replace p330 := eq_true p330
                                        replace q330 := eq_true q330
                                        obtain ⟨Ao79, co79, eo79⟩ := Kd.R_slice HO_10.out
                                        subst eo79
                                        have p331 : 0 ≤ (x15_3 : Int) := of_decide_eq_true (by first | (with_reducible assumption) | assumption)
                                        have q331 : x15_3 < (t313.length : Int) := of_decide_eq_true (by first | (with_reducible assumption) | assumption)
                                        obtain ⟨ad331, e331, hx331_0⟩ := Kd.at_int (Kd.R_reads' HO_10.out).2.2 x15_3 p331 q331
                                        cases e331
                                        replace p331 := eq_true p331
                                        replace q331 := eq_true q331
                                        go_wp2
                                        go_roundg k3
                                        case measure => have := HJ4.out; have := HK2.out; have := HK3.out; omega
                                        case rel => exact ⟨(wrap64 (x15_3 + 1)), (wrap64 (x16_3 + 1)), (by first | rfl | (simp; done) | (simp [*]; done)), (by first | rfl | (simp; done) | (simp [*]; done)), H', ⟨by have := HJ4.out; have := HK2.out; have := HK3.out; omega⟩, ⟨by (try simp only [hl11_2]); (with_reducible repeat (first | apply Kd.R_alloc | apply Kd.R_drewN | apply Kd.R_drew)); exact HO_10.out⟩, ⟨by (try simp only [hl11_2]); (with_reducible repeat (first | apply Kd.R_alloc | apply Kd.R_drewN | apply Kd.R_drew)); exact HO_11.out⟩, ⟨by (try simp only [hl11_2]); (with_reducible repeat (first | apply Kd.R_alloc | apply Kd.R_drewN | apply Kd.R_drew)); exact HO_313003.out⟩, ⟨by (try simp only [hl11_2]); (with_reducible repeat (first | refine blk_drewN ?_ _ | refine blk_drew ?_ | refine blk_alloc ?_ _)); exact BK302.out⟩, ⟨by (try simp only [hl11_2]); (with_reducible repeat (first | refine blk_drewN ?_ _ | refine blk_drew ?_ | refine blk_alloc ?_ _)); exact BK312.out⟩, ⟨by repeat (first | (with_reducible first | exact HB.out | apply below_alloc | apply pw_below_drewN | apply below_drew1 | refine below_set ?_ GE302.out | refine below_set ?_ GE312.out) | exact HB.out)⟩⟩
                                      · rw [if_neg c78] at H
                                        have c78b0 : ((rd t313 x15_3) == x16_3) = false := beq_eq_false_iff_ne.mpr c78
                                        have c78b1 : ((rd t313 x15_3) != x16_3) = true := bne_iff_ne.mpr c78
                                        obtain rfl := Option.some.inj H
                                        have p330 : 0 ≤ (x16_3 : Int) := of_decide_eq_true (by first | (with_reducible assumption) | assumption)
                                        have q330 : x16_3 < (x11_2.length : Int) := of_decide_eq_true (by first | (with_reducible assumption) | assumption)
                                        obtain ⟨ad330, e330, hx330_0⟩ := Kd.at_bool (Kd.R_reads' HO_11.out).2.2 x16_3 p330 q330
                                        (try rw [← Nbq72.out] at hx330_0)
                                        obtain rfl : (⟨go25, 0, none⟩ : Addr) = ad330 := (by injection e330)
                                        (first | simp only [add_plain] at hx330_0 | simp only [add_at] at hx330_0 | simp only [Addr.add, Nat.zero_add] at hx330_0 | skip)
                                        replace p330 := eq_true p330
                                        replace q330 := eq_true q330
                                        obtain ⟨Ao80, co80, eo80⟩ := Kd.R_slice HO_10.out
                                        subst eo80
                                        have p331 : 0 ≤ (x15_3 : Int) := of_decide_eq_true (by first | (with_reducible assumption) | assumption)
                                        have q331 : x15_3 < (t313.length : Int) := of_decide_eq_true (by first | (with_reducible assumption) | assumption)
                                        obtain ⟨ad331, e331, hx331_0⟩ := Kd.at_int (Kd.R_reads' HO_10.out).2.2 x15_3 p331 q331
                                        cases e331
                                        replace p331 := eq_true p331
                                        replace q331 := eq_true q331
                                        go_wp2
                                        go_ret
                                        exact ⟨by first | rfl | (simp [errW_none, errW_some] <;> rfl) | (simp [*, errW_none, errW_some] <;> rfl), by repeat (first | (with_reducible first | exact HB.out | apply below_alloc | apply pw_below_drewN | apply below_drew1 | refine below_set ?_ GE302.out | refine below_set ?_ GE312.out) | exact HB.out)⟩
                                    · rw [if_neg c77] at H
                                      exact absurd H (by simp)
                                  · rw [if_neg c76] at H
                                    exact absurd H (by simp)
                              · replace c73 := Bool.eq_false_iff.mpr c73
                                subst c73
                                have H1 : (tammylaw03_TermBelow.l2 k3 t303 t313 x11_2 x15_3 (wrap64 (x16_3 + 1))) = some r := by rw [if_neg (show ¬ (false = true) by decide)] at H; exact H
                                clear H
                                have H := H1
                                clear H1
                                have H' := Aside0.mk H
                                clear H
                                have p330 : 0 ≤ (x16_3 : Int) := of_decide_eq_true (by first | (with_reducible assumption) | assumption)
                                have q330 : x16_3 < (x11_2.length : Int) := of_decide_eq_true (by first | (with_reducible assumption) | assumption)
                                obtain ⟨ad330, e330, hx330_0⟩ := Kd.at_bool (Kd.R_reads' HO_11.out).2.2 x16_3 p330 q330
                                (try rw [← Nbq72.out] at hx330_0)
                                obtain rfl : (⟨go25, 0, none⟩ : Addr) = ad330 := (by injection e330)
                                (first | simp only [add_plain] at hx330_0 | simp only [add_at] at hx330_0 | simp only [Addr.add, Nat.zero_add] at hx330_0 | skip)
                                replace p330 := eq_true p330
                                replace q330 := eq_true q330
                                go_wp2
                                go_roundg k3
                                case measure => have := HJ4.out; have := HK2.out; have := HK3.out; omega
                                case rel => exact ⟨(x15_3), (wrap64 (x16_3 + 1)), (by first | rfl | (simp; done) | (simp [*]; done)), (by first | rfl | (simp; done) | (simp [*]; done)), H', ⟨by have := HJ4.out; have := HK2.out; have := HK3.out; omega⟩, ⟨by (try simp only [hl11_2]); (with_reducible repeat (first | apply Kd.R_alloc | apply Kd.R_drewN | apply Kd.R_drew)); exact HO_10.out⟩, ⟨by (try simp only [hl11_2]); (with_reducible repeat (first | apply Kd.R_alloc | apply Kd.R_drewN | apply Kd.R_drew)); exact HO_11.out⟩, ⟨by (try simp only [hl11_2]); (with_reducible repeat (first | apply Kd.R_alloc | apply Kd.R_drewN | apply Kd.R_drew)); exact HO_313003.out⟩, ⟨by (try simp only [hl11_2]); (with_reducible repeat (first | refine blk_drewN ?_ _ | refine blk_drew ?_ | refine blk_alloc ?_ _)); exact BK302.out⟩, ⟨by (try simp only [hl11_2]); (with_reducible repeat (first | refine blk_drewN ?_ _ | refine blk_drew ?_ | refine blk_alloc ?_ _)); exact BK312.out⟩, ⟨by repeat (first | (with_reducible first | exact HB.out | apply below_alloc | apply pw_below_drewN | apply below_drew1 | refine below_set ?_ GE302.out | refine below_set ?_ GE312.out) | exact HB.out)⟩⟩
                            · rw [if_neg c71] at H
                              exact absurd H (by simp)
                          · rw [if_neg c70] at H
                            have c70b0 : decide (x16_3 < (x11_2.length : Int)) = false := decide_eq_false c70
                            clear c70
                            by_cases c81 : t303 = true
                            · subst c81
                              have H1 : (some (x15_3 == (t313.length : Int))) = some r := by rw [if_pos rfl] at H; exact H
                              clear H
                              have H := H1
                              clear H1
                              obtain rfl := Option.some.inj H
                              obtain ⟨Ao82, co82, eo82⟩ := Kd.R_slice HO_10.out
                              subst eo82
                              go_wp2
                              go_ret
                              exact ⟨by first | rfl | (simp [errW_none, errW_some] <;> rfl) | (simp [*, errW_none, errW_some] <;> rfl), by repeat (first | (with_reducible first | exact HB.out | apply below_alloc | apply pw_below_drewN | apply below_drew1 | refine below_set ?_ GE302.out | refine below_set ?_ GE312.out) | exact HB.out)⟩
                            · replace c81 := Bool.eq_false_iff.mpr c81
                              subst c81
                              have H1 : (some false) = some r := by rw [if_neg (show ¬ (false = true) by decide)] at H; exact H
                              clear H
                              have H := H1
                              clear H1
                              obtain rfl := Option.some.inj H
                              go_wp2
                              go_ret
                              exact ⟨by first | rfl | (simp [errW_none, errW_some] <;> rfl) | (simp [*, errW_none, errW_some] <;> rfl), by repeat (first | (with_reducible first | exact HB.out | apply below_alloc | apply pw_below_drewN | apply below_drew1 | refine below_set ?_ GE302.out | refine below_set ?_ GE312.out) | exact HB.out)⟩
              · rw [if_neg c24] at H
                exact absurd H (by simp)
            · rw [if_neg c23] at H
              exact absurd H (by simp)
          · rw [if_neg c22] at H
            exact absurd H (by simp)
        · rw [if_neg c21] at H
          exact absurd H (by simp)

end Go.Proofs.Ytiliknfmlmdmbaa.T
